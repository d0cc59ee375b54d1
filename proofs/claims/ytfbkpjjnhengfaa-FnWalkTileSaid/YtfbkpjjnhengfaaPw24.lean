import Derived.Test.YtfbkpjjnhengfaaProg
import Derived.Below
import Derived.Deep.Draws
import Derived.Deep.AppendLies
import Derived.Maps.AppendAt
import Derived.OwnWalk
import Derived.Laws.BytesArg
import Derived.Laws.MakeOwn
import Derived.Laws.OwnMore
import Derived.Deep.OwnRows
import Derived.Tactics
import Derived.Lib.ConvBytes
import Derived.Laws.Slices
import Derived.WalkKit
import Derived.KernelRfl
import Derived.RowKit3
import Derived.Deep.LoopGhost
import Derived.Deep.QuietTactic
import Derived.BigQuiet
import Derived.WideLaws
import Derived.Deep.DeepCutAuto
import Derived.Deep.CutBlock
import Derived.Deep.RegionHeld3
import Derived.Laws.Rows
import Derived.Lib.AppendStr
import Derived.ArgAppend
import Derived.Laws.IdiomCopy
import Derived.OrdersHeld
import Derived.Laws.BitsLemmas
import Derived.RowKit
import Derived.Test.YtfbkpjjnhengfaaPw3
import Derived.Test.YtfbkpjjnhengfaaPw4
import Derived.Test.YtfbkpjjnhengfaaPw5
import Derived.Test.YtfbkpjjnhengfaaPw6
import Derived.Test.YtfbkpjjnhengfaaPw7
import Derived.Test.YtfbkpjjnhengfaaPw8
import Derived.Test.YtfbkpjjnhengfaaPw9
import Derived.Test.YtfbkpjjnhengfaaPw10
import Derived.Test.YtfbkpjjnhengfaaPw11
import Derived.Test.YtfbkpjjnhengfaaPw12
import Derived.Test.YtfbkpjjnhengfaaPw13
import Derived.Test.YtfbkpjjnhengfaaPw14
import Derived.Test.YtfbkpjjnhengfaaPw15
import Derived.Test.YtfbkpjjnhengfaaPw16
import Derived.Test.YtfbkpjjnhengfaaPw17
import Derived.Test.YtfbkpjjnhengfaaPw18
import Derived.Test.YtfbkpjjnhengfaaPw19
import Derived.Test.YtfbkpjjnhengfaaPw20
import Derived.Test.YtfbkpjjnhengfaaPw21
import Derived.Test.YtfbkpjjnhengfaaPw22
import Derived.Test.YtfbkpjjnhengfaaPw23
import Derived.BigRegion
namespace Go.Proofs.Ytfbkpjjnhengfaa.K
open Go.RowKit Go.Proofs.YtfbkpjjnhengfaaW.PrintWords Go.Proofs.YtfbkpjjnhengfaaW.PrintLast Go.Proofs.YtfbkpjjnhengfaaW.PrintMore
attribute [local go_sem] max2_int min2_int max_two min_two max_three min_three max_four min_four
set_option linter.unusedVariables false
set_option linter.unusedSimpArgs false
def errW : Option Int → Value
  | none => .nilIface
  | some c => .iface 0 (.int .i64 c)
theorem errW_none : errW none = .nilIface := rfl
theorem errW_some (c : Int) : errW (some c) = .iface 0 (.int .i64 c) := rfl
def lA (n m : Nat) : Array Bool := ((List.range n).map (Nat.testBit m)).toArray
theorem lA1 {α : Type} (l : List α) (i : Nat) (a : α) : l.toArray.setIfInBounds i a = (l.set i a).toArray := List.setIfInBounds_toArray l i a
theorem lA2 {α : Type} {x a : α} {l : List α} : (x :: l).set 0 a = a :: l := List.set_cons_zero
theorem lA3 {α : Type} {x a : α} {l : List α} {n : Nat} : (x :: l).set (n + 1) a = x :: l.set n a := List.set_cons_succ
section
open Go.Proofs.YtfbkpjjnhengfaaW.PrintLast
variable {P : Program} {ops : Array Oper} {Q : Exit → Act → World → Prop} {md : Region.Mode} {S : World → Prop} {ds : List Nat} {oi : Oper} {v : Value} {fuel : Nat} {l : Array Bool} {a a' : Act} {w : World}
theorem pS (i : Nat) (n : Tmp) (l' : Array Bool) (h : wpAnyLast P md ops Q S ds fuel l' a' w) (hi : ops[i]? = some oi := by exact rfl) (hN : oi.dst = some n := by exact rfl) (hc : anyB md ops l l' i = true := by as_aux_lemma => kernel_rfl) (hQ : ∀ c a w, Q (.panic c) (a.put oi.dst v) w → Q (.panic c) a w := by exact fun _ _ _ h => h) (hw : Region.wanted oi (yielded ops a.tmps) = true := by rfl) (hv : ∀ w', (execOp a.eval oi).run P w' = .ok (.value v) w' := by intro w'; go_simp; with_reducible rfl) (ha : a.put (some n) v = a' := by simp only [Act.put, lA1, lA2, lA3, i64_w, i32_w]; rfl) : wpAnyLast P md ops Q S ds (fuel + 1) l a w :=
  pure_ l' hi hN hc hQ (Or.inl ⟨hw, hv⟩) ha h
theorem pU (i : Nat) (n : Tmp) (l' : Array Bool) (h : wpAnyLast P md ops Q S ds fuel l' a' w) (hi : ops[i]? = some oi := by exact rfl) (hN : oi.dst = some n := by exact rfl) (hc : anyB md ops l l' i = true := by as_aux_lemma => kernel_rfl) (hQ : ∀ c a w, Q (.panic c) (a.put oi.dst undef) w → Q (.panic c) a w := by exact fun _ _ _ h => h) (hw : Region.wanted oi (yielded ops a.tmps) = false := by rfl) (ha : a.put (some n) undef = a' := by simp only [Act.put, lA1, lA2, lA3, i64_w, i32_w]; rfl) : wpAnyLast P md ops Q S ds (fuel + 1) l a w :=
  pure_ l' hi hN hc hQ (Or.inr ⟨hw, rfl⟩) ha h
theorem tS (i : Nat) (n : Tmp) (l' : Array Bool) (hi : ops[i]? = some oi) (hN : oi.dst = some n) (hc : takeB md ops ds l l' i = true) (hS : S w) (hv : ∀ w', S w' → (execOp a.eval oi).run P w' = .ok (.value v) w') (h : wpAnyLast P md ops Q S ds fuel l' a' w) (hQ : ∀ c a w, Q (.panic c) (a.put oi.dst v) w → Q (.panic c) a w := by exact fun _ _ _ h => h) (hw : Region.wanted oi (yielded ops a.tmps) = true := by rfl) (ha : a.put (some n) v = a' := by simp only [Act.put, lA1, lA2, lA3, i64_w, i32_w]; rfl) : wpAnyLast P md ops Q S ds (fuel + 1) l a w :=
  take_ l' hi hN hc hQ (Or.inl ⟨hw, hv⟩) hS ha h
end
theorem info3 : (Try.prog.info? 3).map (fun i => (i.zero, i.size, i.bytes)) = some (some (.int .i64 0), 1, 8) := by kernel_rfl
theorem info4 : (Try.prog.info? 4).map (fun i => (i.zero, i.size, i.bytes)) = some (some (.bool false), 1, 1) := by kernel_rfl
theorem info5 : (Try.prog.info? 5).map (fun i => (i.zero, i.size, i.bytes)) = some (some (.int .u8 0), 1, 1) := by kernel_rfl
theorem info24 : (Try.prog.info? 24).map (fun i => (i.zero, i.size, i.bytes)) = some (some (.slice none 0 0), 1, 24) := by kernel_rfl
theorem info99 : (Try.prog.info? 99).map (fun i => (i.zero, i.size, i.bytes)) = some (some (.agg #[(.int .i64 0), (.slice none 0 0)]), 2, 32) := by kernel_rfl
def rd_L2 (xs : List (List Int)) (i : Int) : (List Int) := xs.getD i.toNat ([] : List Int)
theorem at_L2 {w : World} {A : Option Addr} {n : Nat} {xs : List (List Int)} (h : Kd.C (Kd.slice 3 (Kd.int .i64)) w A n xs) (i : Int) (h0 : 0 ≤ i) (h1 : i < n) : ∃ ad A0 c0, A = some ad ∧ w.cell? (ad.add i.toNat) = some (.slice A0 (rd_L2 xs i).length c0) ∧ (rd_L2 xs i).length ≤ c0 ∧ (Kd.int .i64).C w A0 (rd_L2 xs i).length (rd_L2 xs i) := by
 obtain ⟨ad, c, e, _, hK, hc0⟩ := Kd.C_get h ([] : List Int) i h0 h1
 have hc : ∀ j u, c[j]? = some u → w.cell? (ad.add (i.toNat * 1 + j)) = some u := hc0
 obtain ⟨A0, c0, rfl, l0, g0⟩ := hK
 exact ⟨ad, A0, c0, e, by have hq := hc 0 _ rfl; rwa [Nat.mul_one, Nat.add_zero] at hq, l0, g0⟩
structure S99 where
  f0 : Int
  f1 : (List Int)
def z99 : S99 := ⟨(0 : Int), ([] : List Int)⟩
def k99 : Kd S99 := Kd.iso (Kd.pair (Kd.int .i64) (Kd.slice 3 (Kd.int .i64))) (fun x : S99 => (x.f0, x.f1))
theorem k99_open {w : World} {x : S99} {cs : List Value} (h : k99.K w x cs) : ∃ A1 c1, cs = [.int .i64 x.f0, .slice A1 x.f1.length c1] ∧ x.f1.length ≤ c1 ∧ (Kd.int .i64).C w A1 x.f1.length x.f1 := by
  obtain ⟨_, _, rfl, rfl, ⟨A1, c1, rfl, l1, g1⟩⟩ := h
  exact ⟨A1, c1, rfl, l1, g1⟩
theorem k99_openM {w : World} {base : Nat} {ok : Nat → Prop} {x : S99} {cs : List Value} (h : k99.M w base ok x cs) : ∃ v1, cs = [.int .i64 x.f0, v1] ∧ (Kd.int .i64).R 3 w base ok v1 x.f1 := by
  obtain ⟨_, _, rfl, rfl, ⟨v1, rfl, g1⟩⟩ := h
  exact ⟨v1, rfl, g1⟩
theorem k99_mk (w : World) (x : S99) {A1 : Option Addr} {c1 : Nat} (l1 : x.f1.length ≤ c1) (g1 : (Kd.int .i64).C w A1 x.f1.length x.f1) : k99.K w x [.int .i64 x.f0, .slice A1 x.f1.length c1] := ⟨[.int .i64 x.f0], [.slice A1 x.f1.length c1], rfl, rfl, ⟨A1, c1, rfl, l1, g1⟩⟩
theorem k99_mkM (w : World) (base : Nat) (ok : Nat → Prop) (x : S99) {v1 : Value} (g1 : (Kd.int .i64).R 3 w base ok v1 x.f1) : k99.M w base ok x [.int .i64 x.f0, v1] := ⟨[.int .i64 x.f0], [v1], rfl, rfl, ⟨v1, rfl, g1⟩⟩
theorem k99_mkF (W : World) (ok : Nat → Prop) (x : S99) {A1 : Option Addr} {c1 : Nat} (l1 : x.f1.length ≤ c1) (g1 : Kd.F (Kd.int .i64) W ok A1 x.f1.length x.f1) : Kd.FK k99 W ok x [.int .i64 x.f0, .slice A1 x.f1.length c1] := fun W2 hW => k99_mk W2 x l1 (g1 W2 hW)
def rd_T99 (xs : List S99) (i : Int) : S99 := xs.getD i.toNat z99
theorem at_T99 {w : World} {A : Option Addr} {n : Nat} {xs : List S99} (h : Kd.C k99 w A n xs) (i : Int) (h0 : 0 ≤ i) (h1 : i < n) : ∃ ad A1 c1, A = some ad ∧ w.cell? (ad.add (i.toNat * 2)) = some (.int .i64 (rd_T99 xs i).f0) ∧ w.cell? ⟨(ad.add (i.toNat * 2)).block, (ad.add (i.toNat * 2)).off + 1, none⟩ = some (.slice A1 (rd_T99 xs i).f1.length c1) ∧ (rd_T99 xs i).f1.length ≤ c1 ∧ (Kd.int .i64).C w A1 (rd_T99 xs i).f1.length (rd_T99 xs i).f1 := by
 obtain ⟨ad, c, e, _, hK, hc0⟩ := Kd.C_get h z99 i h0 h1
 have hc : ∀ j u, c[j]? = some u → w.cell? (ad.add (i.toNat * 2 + j)) = some u := hc0
 obtain ⟨A1, c1, rfl, l1, g1⟩ := k99_open hK
 exact ⟨ad, A1, c1, e, hc 0 _ rfl, by rw [← add_field _ _ 1 (by omega)]; exact hc 1 _ rfl, l1, g1⟩
theorem cbf2 {w : World} {g : Nat} {t : TypeId} {a0 a1 : Value} (h : Aside0 (w.heap[g]? = some (.cells #[a0, a1] t (0, 0)))) : w.cell? ⟨g, 0, none⟩ = some a0 ∧ w.cell? ⟨g, 1, none⟩ = some a1 ∧ w.frozen? ⟨g, 0, none⟩ = false ∧ w.frozen? ⟨g, 1, none⟩ = false := ⟨(blk_cell h.out 0).trans rfl, (blk_cell h.out 1).trans rfl, blk_frozen h.out 0, blk_frozen h.out 1⟩
theorem cbf5 {w : World} {g : Nat} {t : TypeId} {a0 a1 a2 a3 a4 : Value} (h : Aside0 (w.heap[g]? = some (.cells #[a0, a1, a2, a3, a4] t (0, 0)))) : w.cell? ⟨g, 0, none⟩ = some a0 ∧ w.cell? ⟨g, 1, none⟩ = some a1 ∧ w.cell? ⟨g, 2, none⟩ = some a2 ∧ w.cell? ⟨g, 3, none⟩ = some a3 ∧ w.cell? ⟨g, 4, none⟩ = some a4 ∧ w.frozen? ⟨g, 0, none⟩ = false ∧ w.frozen? ⟨g, 1, none⟩ = false ∧ w.frozen? ⟨g, 2, none⟩ = false ∧ w.frozen? ⟨g, 3, none⟩ = false ∧ w.frozen? ⟨g, 4, none⟩ = false := ⟨(blk_cell h.out 0).trans rfl, (blk_cell h.out 1).trans rfl, (blk_cell h.out 2).trans rfl, (blk_cell h.out 3).trans rfl, (blk_cell h.out 4).trans rfl, blk_frozen h.out 0, blk_frozen h.out 1, blk_frozen h.out 2, blk_frozen h.out 3, blk_frozen h.out 4⟩
theorem z1 {p : Prop} (h : p := by (try simp only [List.map_toArray, List.map_cons, List.map_nil]); first | done | rfl | (simp only [List.length_drop, List.length_take]; rfl)) : p := h
theorem z2 {p : Prop} (h : p := by repeat (first | (with_reducible first | exact HB.out | apply below_alloc | apply pw_below_drewN | apply below_drew1) | exact HB.out)) : p := h
theorem z3 {p : Prop} (h : p := by first | (with_reducible assumption) | assumption) : p := h
theorem z4 {p : Prop} (h : p := by rintro w' ⟨s0, s1, s2, s3, s4, s5⟩; go_simp; with_reducible rfl) : p := h
theorem z5 {p : Prop} (h : p := by simp only [List.map_toArray, List.map_cons, List.map_nil]; rfl) : p := h
theorem z6 {p : Prop} (h : p := by repeat (first | (with_reducible first | exact HB.out | apply below_alloc | apply pw_below_drewN | apply below_drew1 | refine below_set ?_ GE167.out) | exact HB.out)) : p := h
theorem z7 {p : Prop} (h : p := by first | rfl | (simp; done) | (simp [*]; done)) : p := h
theorem z8 {p : Prop} (h : p := by rintro w' ⟨s0, s1, s2, s3, s4⟩; go_simp; with_reducible rfl) : p := h
theorem z9 {p : Prop} (h : p := by repeat (first | (with_reducible first | exact HB.out | apply below_alloc | apply pw_below_drewN | apply below_drew1 | refine below_set ?_ GE271.out) | exact HB.out)) : p := h
theorem z10 {p : Prop} (h : p := by rintro w' ⟨s0, s1, s2, s3, s4, s5, s6, s7, s8, s9, s10⟩; go_simp; with_reducible rfl) : p := h
theorem z11 {p : Prop} (h : p := by repeat (first | (with_reducible first | exact HB.out | apply below_alloc | apply pw_below_drewN | apply below_drew1 | refine below_set ?_ GE325.out) | exact HB.out)) : p := h
theorem z12 {p : Prop} (h : p := by (with_reducible repeat (first | refine blk_drewN ?_ _ | refine blk_drew ?_ | refine blk_alloc ?_ _)); exact BK167.out) : p := h
theorem z13 {p : Prop} (h : p := by repeat (first | (with_reducible first | exact HB.out | apply below_alloc | apply pw_below_drewN | apply below_drew1 | refine below_set ?_ GE336.out) | exact HB.out)) : p := h
theorem z14 {p : Prop} (h : p := by have := HGr.out; have := HGW.out; omega) : p := h
theorem z15 {p : Prop} (h : p := by repeat (first | (with_reducible first | exact HK.out | apply KeepBut.set_ | apply keep_drewN | apply keep_drew | apply keep_alloc) | exact HK.out)) : p := h
theorem z16 {p : Prop} (h : p := by simp only [putAll, Act.put, List.setIfInBounds_toArray, List.set_cons_zero, List.set_cons_succ]) : p := h
theorem z17 {p : Prop} (h : p := by repeat (first | (with_reducible first | exact HB.out | apply below_alloc | apply pw_below_drewN | apply below_drew1 | refine below_set ?_ GE292.out) | exact HB.out)) : p := h
theorem z18 {p : Prop} (h : p := by (with_reducible repeat (first | refine blk_drewN ?_ _ | refine blk_drew ?_ | refine blk_alloc ?_ _)); exact BK325.out) : p := h
theorem z19 {p : Prop} (h : p := by rintro w' ⟨s0, s1, s2, s3⟩; go_simp; with_reducible rfl) : p := h
theorem z20 {p : Prop} (h : p := by have := HGp.out; have := HGW.out; omega) : p := h
theorem z21 {p : Prop} (h : p := by (with_reducible repeat (first | refine blk_drewN ?_ _ | refine blk_drew ?_ | refine blk_alloc ?_ _)); exact BK336.out) : p := h
theorem z22 {p : Prop} (h : p := by (with_reducible repeat (first | refine blk_drewN ?_ _ | refine blk_drew ?_ | refine blk_alloc ?_ _)); exact BK292.out) : p := h
theorem z23 {p : Prop} (h : p := by (with_reducible repeat (first | refine blk_drewN ?_ _ | refine blk_drew ?_ | refine blk_alloc ?_ _)); exact BK271.out) : p := h
theorem z24 {p : Prop} (h : p := by rintro w' ⟨s0, s1, s2, s3, s4, s5, s6, s7, s8, s9⟩; go_simp; with_reducible rfl) : p := h
theorem z25 {p : Prop} (h : p := by have := HL.out; omega) : p := h
theorem z26 {p : Prop} (h : p := by have := HM.out; omega) : p := h
theorem z27 {p : Prop} (h : p := by (with_reducible repeat (first | apply Kd.R_alloc | apply Kd.R_drewN | apply Kd.R_drew)); exact HO172.out) : p := h
theorem z28 {p : Prop} (h : p := by repeat (first | (with_reducible first | exact HBW.out | apply below_alloc | apply pw_below_drewN | apply below_drew1) | exact HBW.out)) : p := h
theorem z29 {p : Prop} (h : p := by have := HGz.out; have := HBW.out; omega) : p := h
theorem z30 {p : Prop} (h : p := by have := HM.out; have := HX2.out; omega) : p := h
theorem z31 {p : Prop} (h : p := by have := HG.out; have := HBW.out; omega) : p := h
theorem z32 {p : Prop} (h : p := by have := B1.out; unfold pOk at this; rw [HO.out]; exact this) : p := h
end Go.Proofs.Ytfbkpjjnhengfaa.K
namespace Go.Proofs.Ytfbkpjjnhengfaa.K
open Go.RowKit Go.Proofs.YtfbkpjjnhengfaaW.PrintWords Go.Proofs.YtfbkpjjnhengfaaW.PrintLast Go.Proofs.YtfbkpjjnhengfaaW.PrintMore
attribute [local go_sem] max2_int min2_int max_two min_two max_three min_three max_four min_four
set_option linter.unusedVariables false
set_option linter.unusedSimpArgs false
structure Mm where
 words : List Int
 young : Int
 top : Int
 old : Int
 cards : List Bool
 fields : List (List Int)
 begins : List Int
def MV (w : World) (g : Nat) (m : Mm) : Prop := ∃ AW cW AC cC AF cF AB cB,
 w.heap[g]? = some (.cells #[.slice AW m.words.length cW, .int .i64 m.young, .int .i64 m.top, .int .i64 m.old, .slice AC m.cards.length cC, .slice AF m.fields.length cF, .slice AB m.begins.length cB] 55 (0, 0)) ∧
 Kd.C (Kd.int .i64) w AW m.words.length m.words ∧ Kd.C Kd.bool w AC m.cards.length m.cards ∧ Kd.C (Kd.slice 3 (Kd.int .i64)) w AF m.fields.length m.fields ∧ Kd.C (Kd.int .i64) w AB m.begins.length m.begins ∧
 m.words.length ≤ cW ∧ m.cards.length ≤ cC ∧ m.fields.length ≤ cF ∧ m.begins.length ≤ cB
theorem MV_below {w w' : World} {g : Nat} {m : Mm} (h : MV w g m) (hb : Below w.heap.size w w') : MV w' g m := by
  obtain ⟨AW, cW, AC, cC, AF, cF, AB, cB, h0, h1, h2, h3, h4, h5⟩ := h
  exact ⟨AW, cW, AC, cC, AF, cF, AB, cB, (hb.block g (blk_lt h0)).trans h0, Kd.C_below h1 hb, Kd.C_below h2 hb, Kd.C_below h3 hb, Kd.C_below h4 hb, h5⟩
def thV (g : Nat) (at_ : Int) : Value := .agg #[.pointer (some ⟨g, 0, none⟩), .int .i64 at_]
def thing_class.f (m : Mm) (at_ : Int) : Option Int := if 1 ≤ at_ ∧ at_ ≤ m.words.length ∧ m.words.length ≤ 281474976710656 then some (rd m.words (at_ - 1)) else none
set_option maxHeartbeats 4000000 in
set_option maxRecDepth 100000 in
theorem thing_class.calls (g : Nat) (m : Mm) (at_ r : Int) (w : World) (hm : MV w g m) (h : thing_class.f m at_ = some r) :
  Calls Try.prog 94 #[thV g at_] w fun e w' => e = .returned (.int .i64 r) ∧ Below w.heap.size w w' := by
 unfold thing_class.f at h
 split at h
 case isFalse => simp at h
 case isTrue hb =>
 have HR := Aside0.mk (Option.some.inj h)
 clear h
 obtain ⟨AW, cW, AC, cC, AF, cF, AB, cB, h0, h1, h2, h3, h4, h5⟩ := hm
 have HG := blk_lt h0
 obtain ⟨j, hj⟩ : ∃ j, j = at_ - 1 := ⟨_, rfl⟩
 have q : IntKind.i64.wrap (at_ - 1) = j := by rw [hj]; exact IntWalk.i64_in _ ⟨by omega, by omega⟩
 have p1 := eq_true (show 0 ≤ j by omega)
 have p2 := eq_true (show j < (m.words.length : Int) by omega)
 obtain ⟨ad, e0, hx⟩ := Kd.at_int h1 j (by omega) (by omega)
 cases e0
 have x0 : ∀ o, (w.alloc o).cell? (ad.add j.toNat) = some (.int .i64 (rd m.words j)) := fun o => ((below_alloc (Below.refl _ _) o).cell (World.block_lt_of_cell? w _ hx)).trans hx
 rw [← hj] at HR
 have c0 : ∀ o, (w.alloc o).cell? ⟨g, 0, none⟩ = _ := fun o => (blk_cell (blk_alloc h0 o) 0).trans rfl
 clear h1 h2 h3 h4 h5 hb hj
 unfold thV
 go_enter Try.func94, Try.ntmps94
 go_wp2
 go_quiet (fail)
 go_wp2
 go_ret
 exact ⟨by rw [← HR.out]; rfl, by repeat (first | exact Below.refl _ _ | apply below_alloc | apply pw_below_drewN | (refine below_set ?_ (by simp)))⟩
theorem box_new {w w' : World} {cs : Array Value} {t : TypeId} (hb : Below (w.alloc (.cells cs t (0, 0))).heap.size (w.alloc (.cells cs t (0, 0))) w') : w'.heap[w.heap.size]? = some (.cells cs t (0, 0)) := (hb.block w.heap.size (blk_lt (blk_new w _))).trans (blk_new w _)
def rdL (xs : List (List Int)) (i : Int) : List Int := xs.getD i.toNat []
theorem at_rows {w : World} {A : Option Addr} {n : Nat} {xs : List (List Int)} (h : Kd.C (Kd.slice 3 (Kd.int .i64)) w A n xs) (i : Int) (h0 : 0 ≤ i) (h1 : i < n) : ∃ ad A1 c1, A = some ad ∧ w.cell? (ad.add i.toNat) = some (.slice A1 (rdL xs i).length c1) ∧ (rdL xs i).length ≤ c1 ∧ Kd.C (Kd.int .i64) w A1 (rdL xs i).length (rdL xs i) := by
  obtain ⟨ad, c, e, _, ⟨A1, c1, rfl, l1, g1⟩, hc⟩ := Kd.C_get h [] i h0 h1
  exact ⟨ad, A1, c1, e, by have := hc 0 _ rfl; rw [show i.toNat * (Kd.slice 3 (Kd.int .i64)).sz + 0 = i.toNat from by show i.toNat * 1 + 0 = _; omega] at this; exact this, l1, g1⟩
end Go.Proofs.Ytfbkpjjnhengfaa.K
namespace Go.Proofs.Ytfbkpjjnhengfaa.K
open Go.RowKit Go.Proofs.YtfbkpjjnhengfaaW.PrintWords Go.Proofs.YtfbkpjjnhengfaaW.PrintLast Go.Proofs.YtfbkpjjnhengfaaW.PrintMore
attribute [local go_sem] max2_int min2_int max_two min_two max_three min_three max_four min_four
set_option linter.unusedVariables false
set_option linter.unusedSimpArgs false
set_option maxHeartbeats 4000000 in
set_option maxRecDepth 100000 in
theorem memory_thing.calls (g : Nat) (at_ : Int) (w : World) :
  Calls Try.prog 34 #[.pointer (some ⟨g, 0, none⟩), .int .i64 at_] w fun e w' => e = .returned (thV g at_) ∧ Below w.heap.size w w' := by
 unfold thV
 go_enter Try.func34, Try.ntmps34
 go_wp2
 refine bodyPost_ret (results_cell_row rfl _ _ w.heap.size 62 #[.pointer (some ⟨g, 0, none⟩), .int .i64 at_] (0, 0) _ rfl (blk_new _ _) Try.underlying62 rfl (by kernel_rfl)) rfl ?_
 exact ⟨rfl, below_alloc (Below.refl _ _) _⟩
end Go.Proofs.Ytfbkpjjnhengfaa.K
namespace Go.Proofs.Ytfbkpjjnhengfaa.K
open Go.RowKit Go.Proofs.YtfbkpjjnhengfaaW.PrintWords Go.Proofs.YtfbkpjjnhengfaaW.PrintLast Go.Proofs.YtfbkpjjnhengfaaW.PrintMore
attribute [local go_sem] max2_int min2_int max_two min_two max_three min_three max_four min_four
set_option linter.unusedVariables false
set_option linter.unusedSimpArgs false
def kndV (t : Int) : Value :=
 if t = 0 then .iface 119 (.agg #[])
 else if t = 1 then .iface 114 (.agg #[])
 else if t = 2 then .iface 120 (.agg #[])
 else if t = 3 then .iface 116 (.agg #[.bool false])
 else if t = 4 then .iface 116 (.agg #[.bool true])
 else .iface 118 (.agg #[.int .i64 (t - 8)])
def kv (t : Int) : Prop := (0 ≤ t ∧ t ≤ 4) ∨ 8 ≤ t
def kOk (n t : Int) : Bool := decide ((0 ≤ t ∧ t ≤ 4) ∨ (8 ≤ t ∧ t < 8 + n))
def kndO (n t : Int) : Value := if kOk n t = true then kndV t else .nilIface
theorem kv_cases {t : Int} (h : kv t) : t = 0 ∨ t = 1 ∨ t = 2 ∨ t = 3 ∨ t = 4 ∨ 8 ≤ t := by unfold kv at h; omega
theorem kndV_cls {t : Int} (h : 8 ≤ t) : kndV t = .iface 118 (.agg #[.int .i64 (t - 8)]) := by
  unfold kndV
  rw [if_neg (by omega), if_neg (by omega), if_neg (by omega), if_neg (by omega), if_neg (by omega)]
theorem kind_int {s : Int} (hs : kv s) (W : World) : (Instr.typeAssert (kndV s) 111 114 true).run Try.prog W = .ok (.tuple #[.agg #[], .bool (decide (s = 1))]) W := by
 rcases kv_cases hs with rfl | rfl | rfl | rfl | rfl | hs
 all_goals first
  | (rw [kndV_cls hs, decide_eq_false (by omega)]; kernel_rfl)
  | kernel_rfl
theorem kind_arr {s : Int} (hs : kv s) (W : World) : (Instr.typeAssert (kndV s) 111 116 true).run Try.prog W = .ok (.tuple #[.agg #[.bool (decide (s = 4))], .bool (decide (s = 3 ∨ s = 4))]) W := by
 rcases kv_cases hs with rfl | rfl | rfl | rfl | rfl | hs
 all_goals first
  | (rw [kndV_cls hs, decide_eq_false (p := s = 4) (by omega), decide_eq_false (by omega)]; kernel_rfl)
  | kernel_rfl
def clsOf (t : Int) : Int := if 8 ≤ t then t - 8 else 0
theorem kind_class {s : Int} (hs : kv s) (W : World) : (Instr.typeAssert (kndV s) 111 118 true).run Try.prog W = .ok (.tuple #[.agg #[.int .i64 (clsOf s)], .bool (decide (8 ≤ s))]) W := by
 rcases kv_cases hs with rfl | rfl | rfl | rfl | rfl | hs
 all_goals first
  | (rw [kndV_cls hs, decide_eq_true hs, show clsOf s = s - 8 from if_pos hs]; kernel_rfl)
  | kernel_rfl
theorem nil_int (W : World) : (Instr.typeAssert .nilIface 111 114 true).run Try.prog W = .ok (.tuple #[.agg #[], .bool false]) W := by kernel_rfl
theorem nil_arr (W : World) : (Instr.typeAssert .nilIface 111 116 true).run Try.prog W = .ok (.tuple #[.agg #[.bool false], .bool false]) W := by kernel_rfl
theorem nil_class (W : World) : (Instr.typeAssert .nilIface 111 118 true).run Try.prog W = .ok (.tuple #[.agg #[.int .i64 0], .bool false]) W := by kernel_rfl
set_option maxHeartbeats 2000000 in
theorem impl_kindOf.calls (a0 a1 : Int) (w : World) (h0 : 0 ≤ a0) (h1 : a0 ≤ 281474976710656) :
  Calls Try.prog 100 #[.int .i64 a0, .int .i64 a1] w fun e w' => e = .returned (kndO a0 a1) ∧ Drawn0 w w' := by
 by_cases c0 : a1 = 0
 ·subst c0
  have HF := Aside0.mk (show kndO a0 0 = kndV 0 from if_pos (by simp [kOk]))
  go_enter Try.func100, Try.ntmps100
  go_wp2
  go_ret
  exact ⟨by rw [HF.out]; rfl, Drawn0.refl _⟩
 by_cases c1 : a1 = 1
 ·subst c1
  have HF := Aside0.mk (show kndO a0 1 = kndV 1 from if_pos (by simp [kOk]))
  go_enter Try.func100, Try.ntmps100
  go_wp2
  go_ret
  exact ⟨by rw [HF.out]; rfl, Drawn0.refl _⟩
 by_cases c2 : a1 = 2
 ·subst c2
  have HF := Aside0.mk (show kndO a0 2 = kndV 2 from if_pos (by simp [kOk]))
  go_enter Try.func100, Try.ntmps100
  go_wp2
  go_ret
  exact ⟨by rw [HF.out]; rfl, Drawn0.refl _⟩
 by_cases c3 : a1 = 3
 ·subst c3
  have HF := Aside0.mk (show kndO a0 3 = kndV 3 from if_pos (by simp [kOk]))
  go_enter Try.func100, Try.ntmps100
  go_wp2
  go_ret
  exact ⟨by rw [HF.out]; rfl, Drawn0.refl _⟩
 by_cases c4 : a1 = 4
 ·subst c4
  have HF := Aside0.mk (show kndO a0 4 = kndV 4 from if_pos (by simp [kOk]))
  go_enter Try.func100, Try.ntmps100
  go_wp2
  go_ret
  exact ⟨by rw [HF.out]; rfl, Drawn0.refl _⟩
 have d0 : (a1 == 0) = false := beq_eq_false_iff_ne.2 c0
 have d1 : (a1 == 1) = false := beq_eq_false_iff_ne.2 c1
 have d2 : (a1 == 2) = false := beq_eq_false_iff_ne.2 c2
 have d3 : (a1 == 3) = false := beq_eq_false_iff_ne.2 c3
 have d4 : (a1 == 4) = false := beq_eq_false_iff_ne.2 c4
 by_cases c5 : 8 ≤ a1
 ·by_cases c6 : a1 < 8 + a0
  ·have HF := Aside0.mk (show kndO a0 a1 = .iface 118 (.agg #[.int .i64 (a1 - 8)]) from (if_pos (by simp [kOk]; omega)).trans (kndV_cls c5))
   have d5 : decide (8 ≤ a1) = true := decide_eq_true c5
   have d6 : decide (a1 < 8 + a0) = true := decide_eq_true c6
   clear c0 c1 c2 c3 c4
   go_enter Try.func100, Try.ntmps100
   go_wp2
   go_ret
   exact ⟨by rw [HF.out]; rfl, Drawn0.refl _⟩
  ·have HF := Aside0.mk (show kndO a0 a1 = .nilIface from if_neg (by simp [kOk]; omega))
   have d5 : decide (8 ≤ a1) = true := decide_eq_true c5
   have d6 : decide (a1 < 8 + a0) = false := decide_eq_false c6
   clear c0 c1 c2 c3 c4
   go_enter Try.func100, Try.ntmps100
   go_wp2
   go_ret
   exact ⟨by rw [HF.out]; rfl, Drawn0.refl _⟩
 ·have HF := Aside0.mk (show kndO a0 a1 = .nilIface from if_neg (by simp [kOk]; omega))
  have d5 : decide (8 ≤ a1) = false := decide_eq_false c5
  clear c0 c1 c2 c3 c4
  go_enter Try.func100, Try.ntmps100
  go_wp2
  go_ret
  exact ⟨by rw [HF.out]; rfl, Drawn0.refl _⟩
def kOkF.f (n t : Int) : Option Bool := if 0 ≤ n ∧ n ≤ 281474976710656 then some (kOk n t) else none
end Go.Proofs.Ytfbkpjjnhengfaa.K
namespace Go.Proofs.Ytfbkpjjnhengfaa.K
open Go.RowKit Go.Proofs.YtfbkpjjnhengfaaW.PrintWords Go.Proofs.YtfbkpjjnhengfaaW.PrintLast Go.Proofs.YtfbkpjjnhengfaaW.PrintMore
attribute [local go_sem] max2_int min2_int max_two min_two max_three min_three max_four min_four
set_option linter.unusedVariables false
set_option linter.unusedSimpArgs false
def impl_fieldType.f (a0 a1 : Int) : Option Bool := if 0 ≤ a0 ∧ a0 ≤ 281474976710656 then some (kOk a0 a1 && decide (a1 = 1 ∨ a1 = 3 ∨ a1 = 4 ∨ 8 ≤ a1)) else none
set_option maxHeartbeats 2000000 in
theorem impl_fieldType.calls (a0 : Int) (a1 : Int) (r : Bool) (w : World) (h : impl_fieldType.f a0 a1 = some r) :
  Calls Try.prog 83 #[.int .i64 a0, .int .i64 a1] w fun e w' => e = .returned (.bool r) ∧ Drawn0 w w' := by
 unfold impl_fieldType.f at h
 split at h
 case isFalse => simp at h
 case isTrue hb =>
  obtain ⟨h0, h1⟩ := hb
  have HR := Aside0.mk (Option.some.inj h)
  clear h
  by_cases hk : kOk a0 a1 = true
  ·have hv : kv a1 := by simp [kOk] at hk; unfold kv; omega
   have HO := Aside0.mk (show kndO a0 a1 = kndV a1 from if_pos hk)
   have t1 := kind_int hv
   have t2 := kind_arr hv
   have t3 := kind_class hv
   have HK := Aside0.mk hk
   clear hk hv
   go_enter Try.func83, Try.ntmps83
   go_wp2_with (go_at_call 100; refine (impl_kindOf.calls a0 a1 _ h0 h1).mono ?_; rintro e w' ⟨rfl, ⟨n, rfl⟩⟩; rw [HO.out])
   ·go_ret
    exact ⟨by show Ending.returned (.bool true) = _; rw [← HR.out, HK.out, decide_eq_true (by omega)]; rfl, Drawn0.step (Drawn0.refl _) _⟩
   ·go_ret
    exact ⟨by show Ending.returned (.bool false) = _; rw [← HR.out, HK.out, decide_eq_false (by omega)]; rfl, Drawn0.step (Drawn0.refl _) _⟩
  ·have HO := Aside0.mk (show kndO a0 a1 = .nilIface from if_neg hk)
   have HK := Aside0.mk (Bool.not_eq_true _ |>.mp hk)
   have t1 := nil_int
   have t2 := nil_arr
   have t3 := nil_class
   clear hk
   go_enter Try.func83, Try.ntmps83
   go_wp2_with (go_at_call 100; refine (impl_kindOf.calls a0 a1 _ h0 h1).mono ?_; rintro e w' ⟨rfl, ⟨n, rfl⟩⟩; rw [HO.out])
   go_ret
   exact ⟨by show Ending.returned (.bool false) = _; rw [← HR.out, HK.out]; rfl, Drawn0.step (Drawn0.refl _) _⟩
end Go.Proofs.Ytfbkpjjnhengfaa.K
namespace Go.Proofs.Ytfbkpjjnhengfaa.K
open Go.RowKit Go.Proofs.YtfbkpjjnhengfaaW.PrintWords Go.Proofs.YtfbkpjjnhengfaaW.PrintLast Go.Proofs.YtfbkpjjnhengfaaW.PrintMore
attribute [local go_sem] max2_int min2_int max_two min_two max_three min_three max_four min_four
set_option linter.unusedVariables false
set_option linter.unusedSimpArgs false
mutual
def impl_ClassesOk.j0 : Nat → List (S99) → Bool → Option (Bool)
 | 0, _, _ => none
 | k + 1, x0, x15 => if x15 = true then (some false) else (if 0 < (x0.length : Int) then (if ((rd_T99 x0 0).f0) = (-1) then (impl_ClassesOk.j1 k x0 ((((rd_T99 x0 0).f1).length : Int) != 0)) else (impl_ClassesOk.j1 k x0 true)) else (none))
def impl_ClassesOk.j1 : Nat → List (S99) → Bool → Option (Bool)
 | 0, _, _ => none
 | k + 1, x0, x28 => if x28 = true then (some false) else (if 1 < (x0.length : Int) then (if ((rd_T99 x0 1).f0) = 0 then (if (((rd_T99 x0 1).f1).length : Int) = 1 then (if 0 < (((rd_T99 x0 1).f1).length : Int) then (impl_ClassesOk.j2 k x0 ((rd ((rd_T99 x0 1).f1) 0) != 1)) else (none)) else (impl_ClassesOk.j2 k x0 true)) else (impl_ClassesOk.j2 k x0 true)) else (none))
def impl_ClassesOk.j2 : Nat → List (S99) → Bool → Option (Bool)
 | 0, _, _ => none
 | k + 1, x0, x47 => if x47 = true then (some false) else (impl_ClassesOk.l0 k x0 x0 (x0.length : Int) 0)
def impl_ClassesOk.l0 : Nat → List (S99) → List (S99) → Int → Int → Option (Bool)
 | 0, _, _, _, _ => none
 | k + 1, x0, x48, x49, x50 => if x50 < x49 then (if 0 ≤ x50 then (if x50 < (x48.length : Int) then (if x50 > 1 then (if ((rd_T99 x48 x50).f0) < 0 then (impl_ClassesOk.j4 k x0 x48 x49 x50 true ((rd_T99 x48 x50).f0) ((rd_T99 x48 x50).f1)) else (impl_ClassesOk.j4 k x0 x48 x49 x50 (decide (((rd_T99 x48 x50).f0) ≥ x50)) ((rd_T99 x48 x50).f0) ((rd_T99 x48 x50).f1))) else (impl_ClassesOk.j4 k x0 x48 x49 x50 false ((rd_T99 x48 x50).f0) ((rd_T99 x48 x50).f1))) else (none)) else (none)) else (some true)
def impl_ClassesOk.j4 : Nat → List (S99) → List (S99) → Int → Int → Bool → Int → List Int → Option (Bool)
 | 0, _, _, _, _, _, _, _ => none
 | k + 1, x0, x48, x49, x50, x67, x238000, x238001 => if x67 = true then (some false) else (if (x238001.length : Int) > 2 then (some false) else (impl_ClassesOk.l1 k x0 x48 x49 x50 x238001 (x238001.length : Int) 0))
def impl_ClassesOk.l1 : Nat → List (S99) → List (S99) → Int → Int → List Int → Int → Int → Option (Bool)
 | 0, _, _, _, _, _, _, _ => none
 | k + 1, x0, x48, x49, x50, x73, x74, x75 => if x75 < x74 then (if 0 ≤ x75 then (if x75 < (x73.length : Int) then ((impl_fieldType.f (x0.length : Int) (rd x73 x75)).bind fun t239 => (if t239 = true then (impl_ClassesOk.l1 k x0 x48 x49 x50 x73 x74 (wrap64 (x75 + 1))) else (some false))) else (none)) else (none)) else (impl_ClassesOk.l0 k x0 x48 x49 (wrap64 (x50 + 1)))
end
def impl_ClassesOk.f (k : Nat) (l0 : List (S99)) : Option (Bool) := if (l0.length : Int) < 2 then (impl_ClassesOk.j0 k l0 true) else (impl_ClassesOk.j0 k l0 (decide ((l0.length : Int) > 5)))
set_option maxHeartbeats 8000000 in
set_option maxRecDepth 100000 in
theorem impl_ClassesOk.calls (k : Nat) (A0 : Option Addr) (c0 : Nat) (l0 : List (S99)) (r : Bool) (w : World) (hr0 : Kd.C k99 w A0 l0.length l0) (hc0 : l0.length ≤ c0) (h : impl_ClassesOk.f k l0 = some r) :
  Calls Try.prog 55 #[.slice A0 l0.length c0] w fun e w' => e = .returned (.bool r) ∧ Below w.heap.size w w' := by
 have hu99 := Try.underlying99
 have HR0 := Aside0.mk hr0
 have HC0 := Aside0.mk hc0
 clear hr0 hc0
 have HB := Aside0.mk (Below.refl w.heap.size w)
 have H : (if (l0.length : Int) < 2 then (impl_ClassesOk.j0 k l0 true) else (impl_ClassesOk.j0 k l0 (decide ((l0.length : Int) > 5)))) = some r := h
 clear h
 have HC2 := Aside0.mk H
 clear H
 go_enter Try.func55, Try.ntmps55
 go_upto_region 1 with (fail)
 go_cut [15] (fun v15 wc => ∃ (kq : Nat) (x15_1 : Bool), v15 = .bool x15_1 ∧ Aside0 (impl_ClassesOk.j0 kq l0 x15_1 = some r) ∧ Aside0 (kq ≤ k) ∧ Aside0 (Below w.heap.size w wc))
 case first =>
  have H := HC2.out
  clear HC2
  by_cases c3 : (l0.length : Int) < 2
  ·rw [if_pos c3] at H
   have c3b0 : decide ((l0.length : Int) < 2) = true := decide_eq_true c3
   have c3b1 : decide (l0.length < 2) = true := decide_eq_true (by omega)
   clear c3
   (first | rw [c3b0] | (simp only [i64_w, i32_w]; rw [c3b0]) | skip)
   have H' := Aside0.mk H
   clear H
   go_wp2
   go_meet
   case rel => exact ⟨_, (true), z7, H', ⟨by first | omega | exact Nat.le_refl _⟩, ⟨by repeat (first | (with_reducible first | exact HB.out | apply below_alloc | apply pw_below_drewN | apply below_drew1) | exact HB.out)⟩⟩
  ·rw [if_neg c3] at H
   have c3b0 : decide ((l0.length : Int) < 2) = false := decide_eq_false c3
   have c3b1 : decide (l0.length < 2) = false := decide_eq_false (by omega)
   clear c3
   (first | rw [c3b0] | (simp only [i64_w, i32_w]; rw [c3b0]) | skip)
   have H' := Aside0.mk H
   clear H
   go_wp2
   go_meet
   case rel => exact ⟨_, (decide ((l0.length : Int) > 5)), z7, H', ⟨by first | omega | exact Nat.le_refl _⟩, ⟨by repeat (first | (with_reducible first | exact HB.out | apply below_alloc | apply pw_below_drewN | apply below_drew1) | exact HB.out)⟩⟩
 case rest =>
  clear HC2
  try clear p2
  try clear c3
  try clear c3b0
  try clear c3b1
  obtain ⟨kq, x15_1, rfl, HA, HJ1, HB⟩ := hcut
  cases kq with
  | zero => exact absurd HA.out (by simp [impl_ClassesOk.j0])
  | succ kj1 =>
   have H := HA.out
   clear HA
   simp only [impl_ClassesOk.j0] at H
   by_cases c4 : x15_1 = true
   ·subst c4
    rw [if_pos rfl] at H
    obtain rfl := Option.some.inj H
    go_wp2
    go_ret
    exact ⟨by first | rfl | (simp [errW_none, errW_some] <;> rfl) | (simp [*, errW_none, errW_some] <;> rfl), by repeat (first | (with_reducible first | exact HB.out | apply below_alloc | apply pw_below_drewN | apply below_drew1) | exact HB.out)⟩
   ·replace c4 := Bool.eq_false_iff.mpr c4
    subst c4
    rw [if_neg (show ¬ (false = true) by decide)] at H
    have HC5 := Aside0.mk H
    clear H
    go_upto_region 3 with (fail)
    go_cut [28] (fun v28 wc => ∃ (kq : Nat) (x28_4 : Bool), v28 = .bool x28_4 ∧ Aside0 (impl_ClassesOk.j1 kq l0 x28_4 = some r) ∧ Aside0 (kq ≤ kj1) ∧ Aside0 (Below w.heap.size w wc))
    case first =>
     have H := HC5.out
     clear HC5
     by_cases c6 : 0 < (l0.length : Int)
     ·rw [if_pos c6] at H
      have c6b0 : decide (0 < (l0.length : Int)) = true := decide_eq_true c6
      have c6b1 : decide (0 < l0.length) = true := decide_eq_true (by omega)
      clear c6
      (first | rw [c6b0] | (simp only [i64_w, i32_w]; rw [c6b0]) | skip)
      by_cases c7 : ((rd_T99 l0 0).f0) = (-1)
      ·rw [if_pos c7] at H
       have c7b0 : (((rd_T99 l0 0).f0) == (-1)) = true := beq_iff_eq.mpr c7
       have c7b1 : (((rd_T99 l0 0).f0) != (-1)) = false := bne_eq_false_iff_eq.mpr c7
       clear c7
       have H' := Aside0.mk H
       clear H
       have p231 : 0 ≤ (0 : Int) := (by omega)
       have q231 : 0 < (l0.length : Int) := of_decide_eq_true z3
       obtain ⟨ad231, A231_1, c231_1, e231, hx231_0, hx231_1, hl231_1, hi231_1⟩ := at_T99 HR0.out 0 p231 q231
       cases e231
       have qi231 : (0 < l0.length) = True := eq_true (by omega)
       (try rw [show ((0 : Int)).toNat = 0 from rfl] at hx231_0)
       (try rw [show 0 * 2 = 0 from rfl] at hx231_0)
       (try rw [Addr.add_zero'] at hx231_0)
       (try rw [show ((0 : Int)).toNat = 0 from rfl] at hx231_1)
       (try rw [show 0 * 2 = 0 from rfl] at hx231_1)
       (try rw [Addr.add_zero'] at hx231_1)
       replace hx231_0 := (HB.out.cell (World.block_lt_of_cell? w _ hx231_0)).trans hx231_0
       replace hx231_1 := (HB.out.cell (World.block_lt_of_cell? w _ hx231_1)).trans hx231_1
       have HR231_1 := Aside0.mk hi231_1
       have HC231_1 := Aside0.mk hl231_1
       clear hi231_1 hl231_1
       replace p231 := eq_true p231
       replace q231 := eq_true q231
       have p232 : 0 ≤ (0 : Int) := (by omega)
       have q232 : 0 < (l0.length : Int) := of_decide_eq_true z3
       obtain ⟨ad232, A232_1, c232_1, e232, hx232_0, hx232_1, hl232_1, hi232_1⟩ := at_T99 HR0.out 0 p232 q232
       obtain rfl : ad231 = ad232 := (by injection e232)
       have qi232 : (0 < l0.length) = True := eq_true (by omega)
       (try rw [show ((0 : Int)).toNat = 0 from rfl] at hx232_0)
       (try rw [show 0 * 2 = 0 from rfl] at hx232_0)
       (try rw [Addr.add_zero'] at hx232_0)
       (try rw [show ((0 : Int)).toNat = 0 from rfl] at hx232_1)
       (try rw [show 0 * 2 = 0 from rfl] at hx232_1)
       (try rw [Addr.add_zero'] at hx232_1)
       replace hx232_0 := (HB.out.cell (World.block_lt_of_cell? w _ hx232_0)).trans hx232_0
       replace hx232_1 := (HB.out.cell (World.block_lt_of_cell? w _ hx232_1)).trans hx232_1
       have HR232_1 := Aside0.mk hi232_1
       have HC232_1 := Aside0.mk hl232_1
       clear hi232_1 hl232_1
       replace p232 := eq_true p232
       replace q232 := eq_true q232
       have ea_ := Option.some.inj (hx231_1.symm.trans hx232_1)
       injection ea_ with ea_ en_ ec_
       subst ea_
       subst ec_
       clear en_
       go_wp2
       go_meet
       case rel => exact ⟨_, (((((rd_T99 l0 0).f1).length : Int) != 0)), z7, H', ⟨by have := HJ1.out; first | omega | exact Nat.le_refl _⟩, ⟨by repeat (first | (with_reducible first | exact HB.out | apply below_alloc | apply pw_below_drewN | apply below_drew1) | exact HB.out)⟩⟩
      ·rw [if_neg c7] at H
       have c7b0 : (((rd_T99 l0 0).f0) == (-1)) = false := beq_eq_false_iff_ne.mpr c7
       have c7b1 : (((rd_T99 l0 0).f0) != (-1)) = true := bne_iff_ne.mpr c7
       have H' := Aside0.mk H
       clear H
       have p231 : 0 ≤ (0 : Int) := (by omega)
       have q231 : 0 < (l0.length : Int) := of_decide_eq_true z3
       obtain ⟨ad231, A231_1, c231_1, e231, hx231_0, hx231_1, hl231_1, hi231_1⟩ := at_T99 HR0.out 0 p231 q231
       cases e231
       have qi231 : (0 < l0.length) = True := eq_true (by omega)
       (try rw [show ((0 : Int)).toNat = 0 from rfl] at hx231_0)
       (try rw [show 0 * 2 = 0 from rfl] at hx231_0)
       (try rw [Addr.add_zero'] at hx231_0)
       (try rw [show ((0 : Int)).toNat = 0 from rfl] at hx231_1)
       (try rw [show 0 * 2 = 0 from rfl] at hx231_1)
       (try rw [Addr.add_zero'] at hx231_1)
       replace hx231_0 := (HB.out.cell (World.block_lt_of_cell? w _ hx231_0)).trans hx231_0
       replace hx231_1 := (HB.out.cell (World.block_lt_of_cell? w _ hx231_1)).trans hx231_1
       have HR231_1 := Aside0.mk hi231_1
       have HC231_1 := Aside0.mk hl231_1
       clear hi231_1 hl231_1
       replace p231 := eq_true p231
       replace q231 := eq_true q231
       go_wp2
       go_meet
       case rel => exact ⟨_, (true), z7, H', ⟨by have := HJ1.out; first | omega | exact Nat.le_refl _⟩, ⟨by repeat (first | (with_reducible first | exact HB.out | apply below_alloc | apply pw_below_drewN | apply below_drew1) | exact HB.out)⟩⟩
     ·rw [if_neg c6] at H
      exact absurd H (by simp)
    case rest =>
     clear HC5
     try clear c2
     try clear p2
     try clear q2
     try clear hx2
     try clear qi2
     try clear c3
     try clear c3b0
     try clear c3b1
     try clear c4
     try clear c5
     try clear c6
     try clear c6b0
     try clear c6b1
     try clear c7
     try clear c7b0
     try clear c7b1
     try clear hx231_0
     try clear hx231_1
     try clear hx232_0
     try clear hx232_1
     try clear p2
     try clear p231
     try clear p232
     try clear q231
     try clear q232
     obtain ⟨kq, x28_4, rfl, HA, HJ4, HB⟩ := hcut
     cases kq with
     | zero => exact absurd HA.out (by simp [impl_ClassesOk.j1])
     | succ kj4 =>
      have H := HA.out
      clear HA
      simp only [impl_ClassesOk.j1] at H
      by_cases c8 : x28_4 = true
      ·subst c8
       rw [if_pos rfl] at H
       obtain rfl := Option.some.inj H
       go_wp2
       go_ret
       exact ⟨by first | rfl | (simp [errW_none, errW_some] <;> rfl) | (simp [*, errW_none, errW_some] <;> rfl), by repeat (first | (with_reducible first | exact HB.out | apply below_alloc | apply pw_below_drewN | apply below_drew1) | exact HB.out)⟩
      ·replace c8 := Bool.eq_false_iff.mpr c8
       subst c8
       rw [if_neg (show ¬ (false = true) by decide)] at H
       by_cases c9 : 1 < (l0.length : Int)
       ·rw [if_pos c9] at H
        have c9b0 : decide (1 < (l0.length : Int)) = true := decide_eq_true c9
        have c9b1 : decide (1 < l0.length) = true := decide_eq_true (by omega)
        clear c9
        have HC10 := Aside0.mk H
        clear H
        have p233 : 0 ≤ (1 : Int) := (by omega)
        have q233 : 1 < (l0.length : Int) := of_decide_eq_true z3
        obtain ⟨ad233, A233_1, c233_1, e233, hx233_0, hx233_1, hl233_1, hi233_1⟩ := at_T99 HR0.out 1 p233 q233
        cases e233
        (try simp only [show (1 : Int).toNat = 1 from rfl, Nat.reduceMul, Nat.reduceEqDiff, Go.Addr.add, ↓reduceIte] at hx233_0)
        (try simp only [show (1 : Int).toNat = 1 from rfl, Nat.reduceMul, Nat.reduceEqDiff, Go.Addr.add, ↓reduceIte] at hx233_1)
        have qi233 : (1 < l0.length) = True := eq_true (by omega)
        (try rw [show ((1 : Int)).toNat = 1 from rfl] at hx233_0)
        (try rw [show 1 * 2 = 2 from rfl] at hx233_0)
        (try rw [show ((1 : Int)).toNat = 1 from rfl] at hx233_1)
        (try rw [show 1 * 2 = 2 from rfl] at hx233_1)
        replace hx233_0 := (HB.out.cell (World.block_lt_of_cell? w _ hx233_0)).trans hx233_0
        replace hx233_1 := (HB.out.cell (World.block_lt_of_cell? w _ hx233_1)).trans hx233_1
        have HR233_1 := Aside0.mk hi233_1
        have HC233_1 := Aside0.mk hl233_1
        clear hi233_1 hl233_1
        replace p233 := eq_true p233
        replace q233 := eq_true q233
        go_upto_region 6 with (first | ((with_reducible refine gate_dst (N := 3) rfl ?_); (try (refine gate_guard (by rfl) ?_; dsimp only)); refine box_event ?hg (N := 3) ?hd (cs := #[.int .i64 0, .slice none 0 0]) (t := 99) ?hr ?_; (case hd => rfl); (case hg => rfl); (case hr => first | (go_simp; done) | (go_simp; rfl)); intro gb234 hg w11 hbox hb; have BK234 := Aside0.mk (hbox); have GW234 := Aside0.mk ((by rw [hg]; exact (below_size z2) : w.heap.size ≤ gb234)); have GE234 := Aside0.mk ((by rw [hg]; exact (below_size z2) : w.heap.size ≤ gb234)); replace HB := Aside0.mk (below_step z2 hb); clear hb hbox hg; obtain ⟨hcz12_0, hcz12_1, hfz12_0, hfz12_1⟩ := cbf2 BK234))
        (try simp only [Act.put, List.setIfInBounds_toArray, List.set_cons_zero, List.set_cons_succ])
        go_cut [47] (fun v47 wc => ∃ (kq : Nat) (x47_9 : Bool), v47 = .bool x47_9 ∧ Aside0 (impl_ClassesOk.j2 kq l0 x47_9 = some r) ∧ Aside0 (kq ≤ kj4) ∧ Aside0 (wc.heap[gb234]? = some (.cells #[.int .i64 ((rd_T99 l0 1).f0), (.slice A233_1 ((rd_T99 l0 1).f1).length c233_1)] 99 (0, 0))) ∧ Aside0 (Below w.heap.size w wc))
        case first =>
         have H := HC10.out
         clear HC10
         by_cases c13 : ((rd_T99 l0 1).f0) = 0
         ·rw [if_pos c13] at H
          have c13b0 : (((rd_T99 l0 1).f0) == 0) = true := beq_iff_eq.mpr c13
          have c13b1 : (((rd_T99 l0 1).f0) != 0) = false := bne_eq_false_iff_eq.mpr c13
          clear c13
          (first | rw [c13b0] | (simp only [i64_w, i32_w]; rw [c13b0]) | skip)
          by_cases c14 : (((rd_T99 l0 1).f1).length : Int) = 1
          ·rw [if_pos c14] at H
           have c14b0 : ((((rd_T99 l0 1).f1).length : Int) == 1) = true := beq_iff_eq.mpr c14
           have c14b1 : ((((rd_T99 l0 1).f1).length : Int) != 1) = false := bne_eq_false_iff_eq.mpr c14
           clear c14
           by_cases c15 : 0 < (((rd_T99 l0 1).f1).length : Int)
           ·rw [if_pos c15] at H
            have c15b0 : decide (0 < (((rd_T99 l0 1).f1).length : Int)) = true := decide_eq_true c15
            have c15b1 : decide (0 < ((rd_T99 l0 1).f1).length) = true := decide_eq_true (by omega)
            clear c15
            have H' := Aside0.mk H
            clear H
            obtain ⟨hcz16_0, hcz16_1, hfz16_0, hfz16_1⟩ := cbf2 BK234
            have p235 : 0 ≤ (0 : Int) := (by omega)
            have q235 : 0 < (((rd_T99 l0 1).f1).length : Int) := of_decide_eq_true z3
            obtain ⟨ad235, e235, hx235_0⟩ := Kd.at_int HR233_1.out 0 p235 q235
            cases e235
            have qi235 : (0 < ((rd_T99 l0 1).f1).length) = True := eq_true (by omega)
            (try rw [show ((0 : Int)).toNat = 0 from rfl] at hx235_0)
            (try rw [Addr.add_zero'] at hx235_0)
            have hn235_0 : ad235.block ≠ gb234 := Nat.ne_of_lt (Nat.lt_of_lt_of_le (by have := World.block_lt_of_cell? _ _ hx235_0; first | rwa [add_block] at this | exact this) GW234.out)
            have hn235_1 : ad235.block ≠ gb234 := Nat.ne_of_lt (Nat.lt_of_lt_of_le (by have := World.block_lt_of_cell? _ _ hx235_0; first | rwa [add_block] at this | exact this) GW234.out)
            replace hx235_0 := (HB.out.cell (World.block_lt_of_cell? w _ hx235_0)).trans hx235_0
            replace hx235_0 := (cell_far (p := ⟨gb234, 0, none⟩) (by first | (rw [add_block]; exact hn235_0) | (show (Addr.add _ _).block ≠ _; rw [add_block]; exact hn235_0) | exact hn235_0) (.int .i64 ((rd_T99 l0 1).f0))).trans hx235_0
            replace hx235_0 := (cell_far (p := ⟨gb234, 1, none⟩) (by first | (rw [add_block]; exact hn235_1) | (show (Addr.add _ _).block ≠ _; rw [add_block]; exact hn235_1) | exact hn235_1) (.slice (some ad235) ((rd_T99 l0 1).f1).length c233_1)).trans hx235_0
            clear hn235_0
            clear hn235_1
            replace p235 := eq_true p235
            replace q235 := eq_true q235
            go_wp2
            go_meet
            case rel => exact ⟨_, (((rd ((rd_T99 l0 1).f1) 0) != 1)), z7, H', ⟨by have := HJ1.out; have := HJ4.out; first | omega | exact Nat.le_refl _⟩, ⟨by (with_reducible repeat (first | refine blk_drewN ?_ _ | refine blk_drew ?_ | refine blk_alloc ?_ _)); refine blk_put (cs := #[.int .i64 ((rd_T99 l0 1).f0), .slice none 0 0]) ?_ 1 _ rfl; (with_reducible repeat (first | refine blk_drewN ?_ _ | refine blk_drew ?_ | refine blk_alloc ?_ _)); refine blk_put (cs := #[.int .i64 0, .slice none 0 0]) ?_ 0 _ rfl; (with_reducible repeat (first | refine blk_drewN ?_ _ | refine blk_drew ?_ | refine blk_alloc ?_ _)); exact BK234.out⟩, ⟨by repeat (first | (with_reducible first | exact HB.out | apply below_alloc | apply pw_below_drewN | apply below_drew1 | refine below_set ?_ GE234.out) | exact HB.out)⟩⟩
           ·rw [if_neg c15] at H
            exact absurd H (by simp)
          ·rw [if_neg c14] at H
           have c14b0 : ((((rd_T99 l0 1).f1).length : Int) == 1) = false := beq_eq_false_iff_ne.mpr c14
           have c14b1 : ((((rd_T99 l0 1).f1).length : Int) != 1) = true := bne_iff_ne.mpr c14
           have H' := Aside0.mk H
           clear H
           obtain ⟨hcz17_0, hcz17_1, hfz17_0, hfz17_1⟩ := cbf2 BK234
           go_wp2
           go_meet
           case rel => exact ⟨_, (true), z7, H', ⟨by have := HJ1.out; have := HJ4.out; first | omega | exact Nat.le_refl _⟩, ⟨by (with_reducible repeat (first | refine blk_drewN ?_ _ | refine blk_drew ?_ | refine blk_alloc ?_ _)); refine blk_put (cs := #[.int .i64 ((rd_T99 l0 1).f0), .slice none 0 0]) ?_ 1 _ rfl; (with_reducible repeat (first | refine blk_drewN ?_ _ | refine blk_drew ?_ | refine blk_alloc ?_ _)); refine blk_put (cs := #[.int .i64 0, .slice none 0 0]) ?_ 0 _ rfl; (with_reducible repeat (first | refine blk_drewN ?_ _ | refine blk_drew ?_ | refine blk_alloc ?_ _)); exact BK234.out⟩, ⟨by repeat (first | (with_reducible first | exact HB.out | apply below_alloc | apply pw_below_drewN | apply below_drew1 | refine below_set ?_ GE234.out) | exact HB.out)⟩⟩
         ·rw [if_neg c13] at H
          have c13b0 : (((rd_T99 l0 1).f0) == 0) = false := beq_eq_false_iff_ne.mpr c13
          have c13b1 : (((rd_T99 l0 1).f0) != 0) = true := bne_iff_ne.mpr c13
          (first | rw [c13b0] | (simp only [i64_w, i32_w]; rw [c13b0]) | skip)
          have H' := Aside0.mk H
          clear H
          obtain ⟨hcz18_0, hcz18_1, hfz18_0, hfz18_1⟩ := cbf2 BK234
          go_wp2
          go_meet
          case rel => exact ⟨_, (true), z7, H', ⟨by have := HJ1.out; have := HJ4.out; first | omega | exact Nat.le_refl _⟩, ⟨by (with_reducible repeat (first | refine blk_drewN ?_ _ | refine blk_drew ?_ | refine blk_alloc ?_ _)); refine blk_put (cs := #[.int .i64 ((rd_T99 l0 1).f0), .slice none 0 0]) ?_ 1 _ rfl; (with_reducible repeat (first | refine blk_drewN ?_ _ | refine blk_drew ?_ | refine blk_alloc ?_ _)); refine blk_put (cs := #[.int .i64 0, .slice none 0 0]) ?_ 0 _ rfl; (with_reducible repeat (first | refine blk_drewN ?_ _ | refine blk_drew ?_ | refine blk_alloc ?_ _)); exact BK234.out⟩, ⟨by repeat (first | (with_reducible first | exact HB.out | apply below_alloc | apply pw_below_drewN | apply below_drew1 | refine below_set ?_ GE234.out) | exact HB.out)⟩⟩
        case rest =>
         clear HC10
         try clear c1
         try clear c2
         try clear p2
         try clear q2
         try clear hx2
         try clear qi2
         try clear c3
         try clear c3b0
         try clear c3b1
         try clear c4
         try clear c5
         try clear c6
         try clear c6b0
         try clear c6b1
         try clear c7
         try clear c7b0
         try clear c7b1
         try clear c8
         try clear c9
         try clear c9b0
         try clear c9b1
         try clear c13
         try clear c13b0
         try clear c13b1
         try clear c14
         try clear c14b0
         try clear c14b1
         try clear c15
         try clear c15b0
         try clear c15b1
         try clear hcz12_0
         try clear hcz12_1
         try clear hcz16_0
         try clear hcz16_1
         try clear hcz17_0
         try clear hcz17_1
         try clear hcz18_0
         try clear hcz18_1
         try clear hfz12_0
         try clear hfz12_1
         try clear hfz16_0
         try clear hfz16_1
         try clear hfz17_0
         try clear hfz17_1
         try clear hfz18_0
         try clear hfz18_1
         try clear hx231_0
         try clear hx231_1
         try clear hx232_0
         try clear hx232_1
         try clear hx233_0
         try clear hx233_1
         try clear hx235_0
         try clear p2
         try clear p231
         try clear p232
         try clear p233
         try clear p235
         try clear q2
         try clear q231
         try clear q232
         try clear q233
         try clear q235
         obtain ⟨kq, x47_9, rfl, HA, HJ9, BK234, HB⟩ := hcut
         cases kq with
         | zero => exact absurd HA.out (by simp [impl_ClassesOk.j2])
         | succ kj9 =>
          have H := HA.out
          clear HA
          simp only [impl_ClassesOk.j2] at H
          by_cases c19 : x47_9 = true
          ·subst c19
           rw [if_pos rfl] at H
           obtain rfl := Option.some.inj H
           go_wp2
           go_ret
           exact ⟨by first | rfl | (simp [errW_none, errW_some] <;> rfl) | (simp [*, errW_none, errW_some] <;> rfl), by repeat (first | (with_reducible first | exact HB.out | apply below_alloc | apply pw_below_drewN | apply below_drew1 | refine below_set ?_ GE234.out) | exact HB.out)⟩
          ·replace c19 := Bool.eq_false_iff.mpr c19
           subst c19
           rw [if_neg (show ¬ (false = true) by decide)] at H
           have H' := Aside0.mk H
           clear H
           go_wp2
           go_loopg [50] kj9 (fun kq v50 w' => ∃ (x50_4 : Int), v50 = .int .i64 x50_4 ∧ Aside0 (impl_ClassesOk.l0 kq l0 l0 (l0.length : Int) x50_4 = some r) ∧ Aside0 (kq ≤ kj9) ∧ Aside0 (w'.heap[gb234]? = some (.cells #[.int .i64 ((rd_T99 l0 1).f0), (.slice A233_1 ((rd_T99 l0 1).f1).length c233_1)] 99 (0, 0))) ∧ Aside0 (Below w.heap.size w w'))
           case atStart => exact ⟨(0), z7, H', ⟨Nat.le_refl _⟩, ⟨by (with_reducible repeat (first | refine blk_drewN ?_ _ | refine blk_drew ?_ | refine blk_alloc ?_ _)); exact BK234.out⟩, ⟨by repeat (first | (with_reducible first | exact HB.out | apply below_alloc | apply pw_below_drewN | apply below_drew1 | refine below_set ?_ GE234.out) | exact HB.out)⟩⟩
           case round =>
            clear H'
            try clear c1
            try clear c2
            try clear p2
            try clear q2
            try clear hx2
            try clear qi2
            try clear c3
            try clear c3b0
            try clear c3b1
            try clear c4
            try clear c5
            try clear c6
            try clear c6b0
            try clear c6b1
            try clear c7
            try clear c7b0
            try clear c7b1
            try clear c8
            try clear c9
            try clear c9b0
            try clear c9b1
            try clear c13
            try clear c13b0
            try clear c13b1
            try clear c14
            try clear c14b0
            try clear c14b1
            try clear c15
            try clear c15b0
            try clear c15b1
            try clear c19
            try clear hcz12_0
            try clear hcz12_1
            try clear hcz16_0
            try clear hcz16_1
            try clear hcz17_0
            try clear hcz17_1
            try clear hcz18_0
            try clear hcz18_1
            try clear hfz12_0
            try clear hfz12_1
            try clear hfz16_0
            try clear hfz16_1
            try clear hfz17_0
            try clear hfz17_1
            try clear hfz18_0
            try clear hfz18_1
            try clear hx231_0
            try clear hx231_1
            try clear hx232_0
            try clear hx232_1
            try clear hx233_0
            try clear hx233_1
            try clear hx235_0
            try clear p2
            try clear p231
            try clear p232
            try clear p233
            try clear p235
            try clear q2
            try clear q231
            try clear q232
            try clear q233
            try clear q235
            obtain ⟨x50_4, rfl, HA, HK4, BK234, HB⟩ := hrel
            cases gk with
            | zero => exact absurd HA.out (by simp [impl_ClassesOk.l0])
            | succ k4 =>
             have H := HA.out
             clear HA
             simp only [impl_ClassesOk.l0] at H
             by_cases c20 : x50_4 < (l0.length : Int)
             ·rw [if_pos c20] at H
              have c20b0 : decide (x50_4 < (l0.length : Int)) = true := decide_eq_true c20
              clear c20
              by_cases c21 : 0 ≤ x50_4
              ·rw [if_pos c21] at H
               have c21b0 : decide (0 ≤ x50_4) = true := decide_eq_true c21
               clear c21
               by_cases c22 : x50_4 < (l0.length : Int)
               ·rw [if_pos c22] at H
                have c22b0 : decide (x50_4 < (l0.length : Int)) = true := decide_eq_true c22
                clear c22
                have HC23 := Aside0.mk H
                clear H
                have p236 : 0 ≤ (x50_4 : Int) := of_decide_eq_true z3
                have q236 : x50_4 < (l0.length : Int) := of_decide_eq_true z3
                obtain ⟨ad236, A236_1, c236_1, e236, hx236_0, hx236_1, hl236_1, hi236_1⟩ := at_T99 HR0.out x50_4 p236 q236
                obtain rfl : ad233 = ad236 := (by injection e236)
                replace hx236_0 := (HB.out.cell (World.block_lt_of_cell? w _ hx236_0)).trans hx236_0
                replace hx236_1 := (HB.out.cell (World.block_lt_of_cell? w _ hx236_1)).trans hx236_1
                have HR236_1 := Aside0.mk hi236_1
                have HC236_1 := Aside0.mk hl236_1
                clear hi236_1 hl236_1
                replace p236 := eq_true p236
                replace q236 := eq_true q236
                go_upto_region 11 with (first | ((with_reducible refine gate_dst (N := 5) rfl ?_); (try (refine gate_guard (by rfl) ?_; dsimp only)); refine box_event ?hg (N := 5) ?hd (cs := #[.int .i64 0, .slice none 0 0]) (t := 99) ?hr ?_; (case hd => rfl); (case hg => rfl); (case hr => first | (go_simp; done) | (go_simp; rfl)); intro gb237 hg w24 hbox hb; have BK237 := Aside0.mk (hbox); have GW237 := Aside0.mk ((by rw [hg]; exact (below_size (by repeat (first | (with_reducible first | exact HB.out | apply below_alloc | apply pw_below_drewN | apply below_drew1 | refine below_set ?_ GE234.out) | exact HB.out))) : w.heap.size ≤ gb237)); have GE237 := Aside0.mk ((by rw [hg]; exact (below_size (by repeat (first | (with_reducible first | exact HB.out | apply below_alloc | apply pw_below_drewN | apply below_drew1 | refine below_set ?_ GE234.out) | exact HB.out))) : w.heap.size ≤ gb237)); have NB234_237 := Aside0.mk ((by rw [hg]; exact Nat.ne_of_lt (blk_lt (g := gb234) (o := .cells #[.int .i64 ((rd_T99 l0 1).f0), .slice A233_1 ((rd_T99 l0 1).f1).length c233_1] 99 (0, 0)) (by (with_reducible repeat (first | refine blk_drewN ?_ _ | refine blk_drew ?_ | refine blk_alloc ?_ _)); exact BK234.out)) : gb234 ≠ gb237)); have NB237_234 := Aside0.mk ((by rw [hg]; exact Nat.ne_of_gt (blk_lt (g := gb234) (o := .cells #[.int .i64 ((rd_T99 l0 1).f0), .slice A233_1 ((rd_T99 l0 1).f1).length c233_1] 99 (0, 0)) (by (with_reducible repeat (first | refine blk_drewN ?_ _ | refine blk_drew ?_ | refine blk_alloc ?_ _)); exact BK234.out)) : gb237 ≠ gb234)); replace BK234 := Aside0.mk (blk_below (g := gb234) (o := .cells #[.int .i64 ((rd_T99 l0 1).f0), .slice A233_1 ((rd_T99 l0 1).f1).length c233_1] 99 (0, 0)) (by (with_reducible repeat (first | refine blk_drewN ?_ _ | refine blk_drew ?_ | refine blk_alloc ?_ _)); exact BK234.out) hb); replace HB := Aside0.mk (below_step (by repeat (first | (with_reducible first | exact HB.out | apply below_alloc | apply pw_below_drewN | apply below_drew1 | refine below_set ?_ GE234.out) | exact HB.out)) hb); clear hb hbox hg; have hnb25 := NB237_234.out; have hnc25 := NB234_237.out; obtain ⟨hcz26_0, hcz26_1, hfz26_0, hfz26_1⟩ := cbf2 BK237))
                (try simp only [Act.put, List.setIfInBounds_toArray, List.set_cons_zero, List.set_cons_succ])
                go_cut [67] (fun v67 wc => ∃ (kq : Nat) (x67_22 : Bool), v67 = .bool x67_22 ∧ Aside0 (impl_ClassesOk.j4 kq l0 l0 (l0.length : Int) x50_4 x67_22 ((rd_T99 l0 x50_4).f0) ((rd_T99 l0 x50_4).f1) = some r) ∧ Aside0 (kq ≤ k4) ∧ Aside0 (wc.heap[gb234]? = some (.cells #[.int .i64 ((rd_T99 l0 1).f0), (.slice A233_1 ((rd_T99 l0 1).f1).length c233_1)] 99 (0, 0))) ∧ Aside0 (wc.heap[gb237]? = some (.cells #[.int .i64 ((rd_T99 l0 x50_4).f0), (.slice A236_1 ((rd_T99 l0 x50_4).f1).length c236_1)] 99 (0, 0))) ∧ Aside0 (Below w.heap.size w wc))
                case first =>
                 have H := HC23.out
                 clear HC23
                 by_cases c27 : x50_4 > 1
                 ·rw [if_pos c27] at H
                  have c27b0 : decide (1 < x50_4) = true := decide_eq_true c27
                  clear c27
                  (first | rw [c27b0] | (simp only [i64_w, i32_w]; rw [c27b0]) | skip)
                  by_cases c28 : ((rd_T99 l0 x50_4).f0) < 0
                  ·rw [if_pos c28] at H
                   have c28b0 : decide (((rd_T99 l0 x50_4).f0) < 0) = true := decide_eq_true c28
                   clear c28
                   have H' := Aside0.mk H
                   clear H
                   have hnb29 := NB237_234.out
                   have hnc29 := NB234_237.out
                   obtain ⟨hcz30_0, hcz30_1, hfz30_0, hfz30_1⟩ := cbf2 BK237
                   go_wp2
                   go_meet
                   case rel => exact ⟨_, (true), z7, H', ⟨by have := HJ1.out; have := HJ4.out; have := HJ9.out; have := HK4.out; first | omega | exact Nat.le_refl _⟩, ⟨by (with_reducible repeat (first | refine blk_drewN ?_ _ | refine blk_drew ?_ | refine blk_alloc ?_ _)); refine blk_far ?_ NB234_237.out _; (with_reducible repeat (first | refine blk_drewN ?_ _ | refine blk_drew ?_ | refine blk_alloc ?_ _)); refine blk_far ?_ NB234_237.out _; (with_reducible repeat (first | refine blk_drewN ?_ _ | refine blk_drew ?_ | refine blk_alloc ?_ _)); exact BK234.out⟩, ⟨by (with_reducible repeat (first | refine blk_drewN ?_ _ | refine blk_drew ?_ | refine blk_alloc ?_ _)); refine blk_put (cs := #[.int .i64 ((rd_T99 l0 x50_4).f0), .slice none 0 0]) ?_ 1 _ rfl; (with_reducible repeat (first | refine blk_drewN ?_ _ | refine blk_drew ?_ | refine blk_alloc ?_ _)); refine blk_put (cs := #[.int .i64 0, .slice none 0 0]) ?_ 0 _ rfl; (with_reducible repeat (first | refine blk_drewN ?_ _ | refine blk_drew ?_ | refine blk_alloc ?_ _)); exact BK237.out⟩, ⟨by repeat (first | (with_reducible first | exact HB.out | apply below_alloc | apply pw_below_drewN | apply below_drew1 | refine below_set ?_ GE234.out | refine below_set ?_ GE237.out) | exact HB.out)⟩⟩
                  ·rw [if_neg c28] at H
                   have c28b0 : decide (((rd_T99 l0 x50_4).f0) < 0) = false := decide_eq_false c28
                   clear c28
                   have H' := Aside0.mk H
                   clear H
                   have hnb31 := NB237_234.out
                   have hnc31 := NB234_237.out
                   obtain ⟨hcz32_0, hcz32_1, hfz32_0, hfz32_1⟩ := cbf2 BK237
                   go_wp2
                   go_meet
                   case rel => exact ⟨_, (decide (((rd_T99 l0 x50_4).f0) ≥ x50_4)), z7, H', ⟨by have := HJ1.out; have := HJ4.out; have := HJ9.out; have := HK4.out; first | omega | exact Nat.le_refl _⟩, ⟨by (with_reducible repeat (first | refine blk_drewN ?_ _ | refine blk_drew ?_ | refine blk_alloc ?_ _)); refine blk_far ?_ NB234_237.out _; (with_reducible repeat (first | refine blk_drewN ?_ _ | refine blk_drew ?_ | refine blk_alloc ?_ _)); refine blk_far ?_ NB234_237.out _; (with_reducible repeat (first | refine blk_drewN ?_ _ | refine blk_drew ?_ | refine blk_alloc ?_ _)); exact BK234.out⟩, ⟨by (with_reducible repeat (first | refine blk_drewN ?_ _ | refine blk_drew ?_ | refine blk_alloc ?_ _)); refine blk_put (cs := #[.int .i64 ((rd_T99 l0 x50_4).f0), .slice none 0 0]) ?_ 1 _ rfl; (with_reducible repeat (first | refine blk_drewN ?_ _ | refine blk_drew ?_ | refine blk_alloc ?_ _)); refine blk_put (cs := #[.int .i64 0, .slice none 0 0]) ?_ 0 _ rfl; (with_reducible repeat (first | refine blk_drewN ?_ _ | refine blk_drew ?_ | refine blk_alloc ?_ _)); exact BK237.out⟩, ⟨by repeat (first | (with_reducible first | exact HB.out | apply below_alloc | apply pw_below_drewN | apply below_drew1 | refine below_set ?_ GE234.out | refine below_set ?_ GE237.out) | exact HB.out)⟩⟩
                 ·rw [if_neg c27] at H
                  have c27b0 : decide (1 < x50_4) = false := decide_eq_false c27
                  clear c27
                  (first | rw [c27b0] | (simp only [i64_w, i32_w]; rw [c27b0]) | skip)
                  have H' := Aside0.mk H
                  clear H
                  go_wp2
                  go_meet
                  case rel => exact ⟨_, (false), z7, H', ⟨by have := HJ1.out; have := HJ4.out; have := HJ9.out; have := HK4.out; first | omega | exact Nat.le_refl _⟩, ⟨by (with_reducible repeat (first | refine blk_drewN ?_ _ | refine blk_drew ?_ | refine blk_alloc ?_ _)); refine blk_far ?_ NB234_237.out _; (with_reducible repeat (first | refine blk_drewN ?_ _ | refine blk_drew ?_ | refine blk_alloc ?_ _)); refine blk_far ?_ NB234_237.out _; (with_reducible repeat (first | refine blk_drewN ?_ _ | refine blk_drew ?_ | refine blk_alloc ?_ _)); exact BK234.out⟩, ⟨by (with_reducible repeat (first | refine blk_drewN ?_ _ | refine blk_drew ?_ | refine blk_alloc ?_ _)); refine blk_put (cs := #[.int .i64 ((rd_T99 l0 x50_4).f0), .slice none 0 0]) ?_ 1 _ rfl; (with_reducible repeat (first | refine blk_drewN ?_ _ | refine blk_drew ?_ | refine blk_alloc ?_ _)); refine blk_put (cs := #[.int .i64 0, .slice none 0 0]) ?_ 0 _ rfl; (with_reducible repeat (first | refine blk_drewN ?_ _ | refine blk_drew ?_ | refine blk_alloc ?_ _)); exact BK237.out⟩, ⟨by repeat (first | (with_reducible first | exact HB.out | apply below_alloc | apply pw_below_drewN | apply below_drew1 | refine below_set ?_ GE234.out | refine below_set ?_ GE237.out) | exact HB.out)⟩⟩
                case rest =>
                 clear HC23
                 try clear c1
                 try clear c2
                 try clear p2
                 try clear q2
                 try clear hx2
                 try clear qi2
                 try clear c3
                 try clear c3b0
                 try clear c3b1
                 try clear c4
                 try clear c5
                 try clear c6
                 try clear c6b0
                 try clear c6b1
                 try clear c7
                 try clear c7b0
                 try clear c7b1
                 try clear c8
                 try clear c9
                 try clear c9b0
                 try clear c9b1
                 try clear c13
                 try clear c13b0
                 try clear c13b1
                 try clear c14
                 try clear c14b0
                 try clear c14b1
                 try clear c15
                 try clear c15b0
                 try clear c15b1
                 try clear c19
                 try clear c20
                 try clear c20b0
                 try clear c21
                 try clear c21b0
                 try clear c22
                 try clear c22b0
                 try clear c23
                 try clear p23
                 try clear q23
                 try clear hx23
                 try clear qi23
                 try clear c25
                 try clear c27
                 try clear c27b0
                 try clear c28
                 try clear c28b0
                 try clear c29
                 try clear c31
                 try clear hcz12_0
                 try clear hcz12_1
                 try clear hcz16_0
                 try clear hcz16_1
                 try clear hcz17_0
                 try clear hcz17_1
                 try clear hcz18_0
                 try clear hcz18_1
                 try clear hcz26_0
                 try clear hcz26_1
                 try clear hcz30_0
                 try clear hcz30_1
                 try clear hcz32_0
                 try clear hcz32_1
                 try clear hfz12_0
                 try clear hfz12_1
                 try clear hfz16_0
                 try clear hfz16_1
                 try clear hfz17_0
                 try clear hfz17_1
                 try clear hfz18_0
                 try clear hfz18_1
                 try clear hfz26_0
                 try clear hfz26_1
                 try clear hfz30_0
                 try clear hfz30_1
                 try clear hfz32_0
                 try clear hfz32_1
                 try clear hx231_0
                 try clear hx231_1
                 try clear hx232_0
                 try clear hx232_1
                 try clear hx233_0
                 try clear hx233_1
                 try clear hx235_0
                 try clear hx236_0
                 try clear hx236_1
                 try clear p2
                 try clear p231
                 try clear p232
                 try clear p233
                 try clear p235
                 try clear p236
                 try clear q2
                 try clear q231
                 try clear q232
                 try clear q233
                 try clear q235
                 try clear q236
                 obtain ⟨kq, x67_22, rfl, HA, HJ22, BK234, BK237, HB⟩ := hcut
                 cases kq with
                 | zero => exact absurd HA.out (by simp [impl_ClassesOk.j4])
                 | succ kj22 =>
                  have H := HA.out
                  clear HA
                  simp only [impl_ClassesOk.j4] at H
                  by_cases c33 : x67_22 = true
                  ·subst c33
                   rw [if_pos rfl] at H
                   obtain rfl := Option.some.inj H
                   go_wp2
                   go_ret
                   exact ⟨by first | rfl | (simp [errW_none, errW_some] <;> rfl) | (simp [*, errW_none, errW_some] <;> rfl), by repeat (first | (with_reducible first | exact HB.out | apply below_alloc | apply pw_below_drewN | apply below_drew1 | refine below_set ?_ GE234.out | refine below_set ?_ GE237.out) | exact HB.out)⟩
                  ·replace c33 := Bool.eq_false_iff.mpr c33
                   subst c33
                   rw [if_neg (show ¬ (false = true) by decide)] at H
                   by_cases c34 : (((rd_T99 l0 x50_4).f1).length : Int) > 2
                   ·rw [if_pos c34] at H
                    have c34b0 : decide (2 < (((rd_T99 l0 x50_4).f1).length : Int)) = true := decide_eq_true c34
                    have c34b1 : decide (2 < ((rd_T99 l0 x50_4).f1).length) = true := decide_eq_true (by omega)
                    clear c34
                    obtain rfl := Option.some.inj H
                    have hnb35 := NB237_234.out
                    have hnc35 := NB234_237.out
                    obtain ⟨hcz36_0, hcz36_1, hfz36_0, hfz36_1⟩ := cbf2 BK237
                    go_wp2
                    go_ret
                    exact ⟨by first | rfl | (simp [errW_none, errW_some] <;> rfl) | (simp [*, errW_none, errW_some] <;> rfl), by repeat (first | (with_reducible first | exact HB.out | apply below_alloc | apply pw_below_drewN | apply below_drew1 | refine below_set ?_ GE234.out | refine below_set ?_ GE237.out) | exact HB.out)⟩
                   ·rw [if_neg c34] at H
                    have c34b0 : decide (2 < (((rd_T99 l0 x50_4).f1).length : Int)) = false := decide_eq_false c34
                    have c34b1 : decide (2 < ((rd_T99 l0 x50_4).f1).length) = false := decide_eq_false (by omega)
                    clear c34
                    have H' := Aside0.mk H
                    clear H
                    have hnb37 := NB237_234.out
                    have hnc37 := NB234_237.out
                    obtain ⟨hcz38_0, hcz38_1, hfz38_0, hfz38_1⟩ := cbf2 BK237
                    go_wp2
                    go_loopg [75] kj22 (fun kq v75 w' => ∃ (x75_6 : Int), v75 = .int .i64 x75_6 ∧ Aside0 (impl_ClassesOk.l1 kq l0 l0 (l0.length : Int) x50_4 ((rd_T99 l0 x50_4).f1) (((rd_T99 l0 x50_4).f1).length : Int) x75_6 = some r) ∧ Aside0 (kq ≤ kj22) ∧ Aside0 (w'.heap[gb234]? = some (.cells #[.int .i64 ((rd_T99 l0 1).f0), (.slice A233_1 ((rd_T99 l0 1).f1).length c233_1)] 99 (0, 0))) ∧ Aside0 (w'.heap[gb237]? = some (.cells #[.int .i64 ((rd_T99 l0 x50_4).f0), (.slice A236_1 ((rd_T99 l0 x50_4).f1).length c236_1)] 99 (0, 0))) ∧ Aside0 (Below w.heap.size w w'))
                    case atStart => exact ⟨(0), z7, H', ⟨Nat.le_refl _⟩, ⟨by (with_reducible repeat (first | refine blk_drewN ?_ _ | refine blk_drew ?_ | refine blk_alloc ?_ _)); exact BK234.out⟩, ⟨by (with_reducible repeat (first | refine blk_drewN ?_ _ | refine blk_drew ?_ | refine blk_alloc ?_ _)); exact BK237.out⟩, ⟨by repeat (first | (with_reducible first | exact HB.out | apply below_alloc | apply pw_below_drewN | apply below_drew1 | refine below_set ?_ GE234.out | refine below_set ?_ GE237.out) | exact HB.out)⟩⟩
                    case round =>
                     clear H'
                     try clear c1
                     try clear c2
                     try clear p2
                     try clear q2
                     try clear hx2
                     try clear qi2
                     try clear c3
                     try clear c3b0
                     try clear c3b1
                     try clear c4
                     try clear c5
                     try clear c6
                     try clear c6b0
                     try clear c6b1
                     try clear c7
                     try clear c7b0
                     try clear c7b1
                     try clear c8
                     try clear c9
                     try clear c9b0
                     try clear c9b1
                     try clear c13
                     try clear c13b0
                     try clear c13b1
                     try clear c14
                     try clear c14b0
                     try clear c14b1
                     try clear c15
                     try clear c15b0
                     try clear c15b1
                     try clear c19
                     try clear c20
                     try clear c20b0
                     try clear c21
                     try clear c21b0
                     try clear c22
                     try clear c22b0
                     try clear c23
                     try clear p23
                     try clear q23
                     try clear hx23
                     try clear qi23
                     try clear c25
                     try clear c27
                     try clear c27b0
                     try clear c28
                     try clear c28b0
                     try clear c29
                     try clear c31
                     try clear c33
                     try clear c34
                     try clear c34b0
                     try clear c34b1
                     try clear c35
                     try clear c37
                     try clear hcz12_0
                     try clear hcz12_1
                     try clear hcz16_0
                     try clear hcz16_1
                     try clear hcz17_0
                     try clear hcz17_1
                     try clear hcz18_0
                     try clear hcz18_1
                     try clear hcz26_0
                     try clear hcz26_1
                     try clear hcz30_0
                     try clear hcz30_1
                     try clear hcz32_0
                     try clear hcz32_1
                     try clear hcz36_0
                     try clear hcz36_1
                     try clear hcz38_0
                     try clear hcz38_1
                     try clear hfz12_0
                     try clear hfz12_1
                     try clear hfz16_0
                     try clear hfz16_1
                     try clear hfz17_0
                     try clear hfz17_1
                     try clear hfz18_0
                     try clear hfz18_1
                     try clear hfz26_0
                     try clear hfz26_1
                     try clear hfz30_0
                     try clear hfz30_1
                     try clear hfz32_0
                     try clear hfz32_1
                     try clear hfz36_0
                     try clear hfz36_1
                     try clear hfz38_0
                     try clear hfz38_1
                     try clear hx231_0
                     try clear hx231_1
                     try clear hx232_0
                     try clear hx232_1
                     try clear hx233_0
                     try clear hx233_1
                     try clear hx235_0
                     try clear hx236_0
                     try clear hx236_1
                     try clear p2
                     try clear p23
                     try clear p231
                     try clear p232
                     try clear p233
                     try clear p235
                     try clear p236
                     try clear q2
                     try clear q23
                     try clear q231
                     try clear q232
                     try clear q233
                     try clear q235
                     try clear q236
                     obtain ⟨x75_6, rfl, HA, HK6, BK234, BK237, HB⟩ := hrel
                     cases gk with
                     | zero => exact absurd HA.out (by simp [impl_ClassesOk.l1])
                     | succ k6 =>
                      have H := HA.out
                      clear HA
                      simp only [impl_ClassesOk.l1] at H
                      by_cases c39 : x75_6 < (((rd_T99 l0 x50_4).f1).length : Int)
                      ·rw [if_pos c39] at H
                       have c39b0 : decide (x75_6 < (((rd_T99 l0 x50_4).f1).length : Int)) = true := decide_eq_true c39
                       clear c39
                       by_cases c40 : 0 ≤ x75_6
                       ·rw [if_pos c40] at H
                        have c40b0 : decide (0 ≤ x75_6) = true := decide_eq_true c40
                        clear c40
                        by_cases c41 : x75_6 < (((rd_T99 l0 x50_4).f1).length : Int)
                        ·rw [if_pos c41] at H
                         have c41b0 : decide (x75_6 < (((rd_T99 l0 x50_4).f1).length : Int)) = true := decide_eq_true c41
                         clear c41
                         replace H := Option.bind_eq_some_iff.mp H
                         obtain ⟨t239, A420, H⟩ := H
                         try dsimp only at H
                         have A42 := Aside0.mk A420
                         clear A420
                         by_cases c43 : t239 = true
                         ·subst c43
                          rw [if_pos rfl] at H
                          have H' := Aside0.mk H
                          clear H
                          have p238 : 0 ≤ (x75_6 : Int) := of_decide_eq_true z3
                          have q238 : x75_6 < (((rd_T99 l0 x50_4).f1).length : Int) := of_decide_eq_true z3
                          obtain ⟨ad238, e238, hx238_0⟩ := Kd.at_int HR236_1.out x75_6 p238 q238
                          cases e238
                          replace hx238_0 := (HB.out.cell (World.block_lt_of_cell? w _ hx238_0)).trans hx238_0
                          replace p238 := eq_true p238
                          replace q238 := eq_true q238
                          go_wp2_with (first | ((with_reducible refine gate_callee (f := 83) rfl ?_); refine goesL_ (some 82) rfl rfl Try.func83 (by kernel_rfl) rfl #[.int .i64 (l0.length : Int), .int .i64 (rd ((rd_T99 l0 x50_4).f1) x75_6)] rfl z1 ?_; (with_reducible refine (impl_fieldType.calls (l0.length : Int) (rd ((rd_T99 l0 x50_4).f1) x75_6) true _ A42.out).mono ?_); rintro e w' ⟨rfl, ⟨nd, rfl⟩⟩; refine ⟨_, rfl, ?_⟩))
                          go_roundg k6
                          case measure => have := HJ1.out; have := HJ4.out; have := HJ9.out; have := HK4.out; have := HJ22.out; have := HK6.out; omega
                          case rel => exact ⟨(wrap64 (x75_6 + 1)), z7, H', ⟨by have := HJ1.out; have := HJ4.out; have := HJ9.out; have := HK4.out; have := HJ22.out; have := HK6.out; omega⟩, ⟨by (with_reducible repeat (first | refine blk_drewN ?_ _ | refine blk_drew ?_ | refine blk_alloc ?_ _)); exact BK234.out⟩, ⟨by (with_reducible repeat (first | refine blk_drewN ?_ _ | refine blk_drew ?_ | refine blk_alloc ?_ _)); exact BK237.out⟩, ⟨by repeat (first | (with_reducible first | exact HB.out | apply below_alloc | apply pw_below_drewN | apply below_drew1 | refine below_set ?_ GE234.out | refine below_set ?_ GE237.out) | exact HB.out)⟩⟩
                         ·replace c43 := Bool.eq_false_iff.mpr c43
                          subst c43
                          rw [if_neg (show ¬ (false = true) by decide)] at H
                          obtain rfl := Option.some.inj H
                          have p238 : 0 ≤ (x75_6 : Int) := of_decide_eq_true z3
                          have q238 : x75_6 < (((rd_T99 l0 x50_4).f1).length : Int) := of_decide_eq_true z3
                          obtain ⟨ad238, e238, hx238_0⟩ := Kd.at_int HR236_1.out x75_6 p238 q238
                          cases e238
                          replace hx238_0 := (HB.out.cell (World.block_lt_of_cell? w _ hx238_0)).trans hx238_0
                          replace p238 := eq_true p238
                          replace q238 := eq_true q238
                          go_wp2_with (first | ((with_reducible refine gate_callee (f := 83) rfl ?_); refine goesL_ (some 82) rfl rfl Try.func83 (by kernel_rfl) rfl #[.int .i64 (l0.length : Int), .int .i64 (rd ((rd_T99 l0 x50_4).f1) x75_6)] rfl z1 ?_; (with_reducible refine (impl_fieldType.calls (l0.length : Int) (rd ((rd_T99 l0 x50_4).f1) x75_6) false _ A42.out).mono ?_); rintro e w' ⟨rfl, ⟨nd, rfl⟩⟩; refine ⟨_, rfl, ?_⟩))
                          go_ret
                          exact ⟨by first | rfl | (simp [errW_none, errW_some] <;> rfl) | (simp [*, errW_none, errW_some] <;> rfl), by repeat (first | (with_reducible first | exact HB.out | apply below_alloc | apply pw_below_drewN | apply below_drew1 | refine below_set ?_ GE234.out | refine below_set ?_ GE237.out) | exact HB.out)⟩
                        ·rw [if_neg c41] at H
                         exact absurd H (by simp)
                       ·rw [if_neg c40] at H
                        exact absurd H (by simp)
                      ·rw [if_neg c39] at H
                       have c39b0 : decide (x75_6 < (((rd_T99 l0 x50_4).f1).length : Int)) = false := decide_eq_false c39
                       clear c39
                       have H' := Aside0.mk H
                       clear H
                       go_wp2
                       go_roundg k6
                       case measure => have := HJ1.out; have := HJ4.out; have := HJ9.out; have := HK4.out; have := HJ22.out; have := HK6.out; omega
                       case rel => exact ⟨(wrap64 (x50_4 + 1)), z7, H', ⟨by have := HJ1.out; have := HJ4.out; have := HJ9.out; have := HK4.out; have := HJ22.out; have := HK6.out; omega⟩, ⟨by (with_reducible repeat (first | refine blk_drewN ?_ _ | refine blk_drew ?_ | refine blk_alloc ?_ _)); exact BK234.out⟩, ⟨by repeat (first | (with_reducible first | exact HB.out | apply below_alloc | apply pw_below_drewN | apply below_drew1 | refine below_set ?_ GE234.out | refine below_set ?_ GE237.out) | exact HB.out)⟩⟩
               ·rw [if_neg c22] at H
                exact absurd H (by simp)
              ·rw [if_neg c21] at H
               exact absurd H (by simp)
             ·rw [if_neg c20] at H
              have c20b0 : decide (x50_4 < (l0.length : Int)) = false := decide_eq_false c20
              clear c20
              obtain rfl := Option.some.inj H
              go_wp2
              go_ret
              exact ⟨by first | rfl | (simp [errW_none, errW_some] <;> rfl) | (simp [*, errW_none, errW_some] <;> rfl), by repeat (first | (with_reducible first | exact HB.out | apply below_alloc | apply pw_below_drewN | apply below_drew1 | refine below_set ?_ GE234.out) | exact HB.out)⟩
       ·rw [if_neg c9] at H
        exact absurd H (by simp)
end Go.Proofs.Ytfbkpjjnhengfaa.K
namespace Go.Proofs.Ytfbkpjjnhengfaa.K
open Go.RowKit Go.Proofs.YtfbkpjjnhengfaaW.PrintWords Go.Proofs.YtfbkpjjnhengfaaW.PrintLast Go.Proofs.YtfbkpjjnhengfaaW.PrintMore
attribute [local go_sem] max2_int min2_int max_two min_two max_three min_three max_four min_four
set_option linter.unusedVariables false
set_option linter.unusedSimpArgs false
def impl_within.f (a0 : Int) (a1 : Int) (a2 : Int) : Option (Bool) := if a0 ≤ a1 then (some (decide (a1 ≤ a2))) else (some false)
set_option maxHeartbeats 8000000 in
set_option maxRecDepth 100000 in
theorem impl_within.calls (a0 : Int) (a1 : Int) (a2 : Int) (r : Bool) (w : World) (h : impl_within.f a0 a1 a2 = some r) :
  Calls Try.prog 79 #[.int .i64 a0, .int .i64 a1, .int .i64 a2] w fun e w' => e = .returned (.bool r) ∧ Drawn0 w w' := by
 have H : (if a0 ≤ a1 then (some (decide (a1 ≤ a2))) else (some false)) = some r := h
 clear h
 by_cases c4 : a0 ≤ a1
 ·rw [if_pos c4] at H
  have c4b0 : decide (a0 ≤ a1) = true := decide_eq_true c4
  clear c4
  obtain rfl := Option.some.inj H
  go_enter Try.func79, Try.ntmps79
  go_wp2
  go_ret
  exact ⟨by first | rfl | (simp; done) | (simp [*]; done), by repeat (first | exact Drawn0.refl _ | apply Drawn0.step)⟩
 ·rw [if_neg c4] at H
  have c4b0 : decide (a0 ≤ a1) = false := decide_eq_false c4
  clear c4
  obtain rfl := Option.some.inj H
  go_enter Try.func79, Try.ntmps79
  go_wp2
  go_ret
  exact ⟨by first | rfl | (simp; done) | (simp [*]; done), by repeat (first | exact Drawn0.refl _ | apply Drawn0.step)⟩
end Go.Proofs.Ytfbkpjjnhengfaa.K
namespace Go.Proofs.Ytfbkpjjnhengfaa.K
open Go.RowKit Go.Proofs.YtfbkpjjnhengfaaW.PrintWords Go.Proofs.YtfbkpjjnhengfaaW.PrintLast Go.Proofs.YtfbkpjjnhengfaaW.PrintMore
attribute [local go_sem] max2_int min2_int max_two min_two max_three min_three max_four min_four
set_option linter.unusedVariables false
set_option linter.unusedSimpArgs false
def impl_cardsOf.f (a0 : Int) : Option (Int) := some (wrap64 (Int.tdiv (wrap64 ((wrap64 (a0 + 4)) - 1)) 4))
set_option maxHeartbeats 8000000 in
set_option maxRecDepth 100000 in
theorem impl_cardsOf.calls (a0 : Int) (r : Int) (w : World) (h : impl_cardsOf.f a0 = some r) :
  Calls Try.prog 85 #[.int .i64 a0] w fun e w' => e = .returned (.int .i64 r) ∧ Drawn0 w w' := by
 have H : (some (wrap64 (Int.tdiv (wrap64 ((wrap64 (a0 + 4)) - 1)) 4))) = some r := h
 clear h
 obtain rfl := Option.some.inj H
 go_enter Try.func85, Try.ntmps85
 go_wp2
 go_ret
 exact ⟨by first | rfl | (simp; done) | (simp [*]; done), by repeat (first | exact Drawn0.refl _ | apply Drawn0.step)⟩
end Go.Proofs.Ytfbkpjjnhengfaa.K
namespace Go.Proofs.Ytfbkpjjnhengfaa.K
open Go.RowKit Go.Proofs.YtfbkpjjnhengfaaW.PrintWords Go.Proofs.YtfbkpjjnhengfaaW.PrintLast Go.Proofs.YtfbkpjjnhengfaaW.PrintMore
attribute [local go_sem] max2_int min2_int max_two min_two max_three min_three max_four min_four
set_option linter.unusedVariables false
set_option linter.unusedSimpArgs false
theorem impl_partsOk1.calls (x : Int) (w : World) : Calls Try.prog 84 #[.int .i64 x] w fun e w' => e = .returned (.bool (x == 0)) ∧ Below w.heap.size w w' := by
 go_enter Try.func84, Try.ntmps84
 go_wp2
 go_ret
 exact ⟨rfl, by repeat (first | exact Below.refl _ _ | apply below_drew1 | apply pw_below_drewN)⟩
set_option maxHeartbeats 4000000 in
set_option maxRecDepth 100000 in
theorem impl_every.calls (A : Option Addr) (c : Nat) (l : List Int) (W : World) (hr : Kd.C (Kd.int .i64) W A l.length l) (hl : l.length ≤ 281474976710656) :
  Calls Try.prog 86 #[.slice A l.length c, .func (.func 84) #[] #[]] W fun e w' => e = .returned (.bool (l.all (· == 0))) ∧ Below W.heap.size W w' := by
 have HR := Aside0.mk hr
 have HL := Aside0.mk hl
 clear hr hl
 go_enter Try.func86, Try.ntmps86
 go_wp2
 go_loopw [9] (fun i wr => ∃ k : Nat, k ≤ l.length ∧ i = .int .i64 k ∧ Aside0 ((l.drop k).all (· == 0) = l.all (· == 0)) ∧ Aside0 (Below W.heap.size W wr)) (fun i _ => l.length - (intOf i).toNat)
 case atStart => exact ⟨0, Nat.zero_le _, rfl, ⟨by simp⟩, ⟨Below.refl _ _⟩⟩
 case round =>
  obtain ⟨k, hk, rfl, HN, HB⟩ := hrel
  by_cases hlt : k < l.length
  ·have hd := List.drop_eq_getElem_cons hlt
   have hg : l[k] = rd l k := by unfold rd; rw [Int.toNat_natCast, List.getD_eq_getElem?_getD, List.getElem?_eq_getElem hlt]; rfl
   obtain ⟨ad, e0, hcell⟩ := Kd.at_int (Kd.C_below HR.out HB.out) k (by omega) (by omega)
   cases e0
   rw [Int.toNat_natCast] at hcell
   have HN2 := HN.out
   rw [hd, hg, List.all_cons] at HN2
   have HX := Aside0.mk HN2
   clear hd hg HN HN2
   generalize rd l k = x at *
   by_cases hx : x = 0
   ·have d1 : (x == 0) = true := beq_iff_eq.mpr hx
    have HY := Aside0.mk (show (l.drop (k + 1)).all (· == 0) = l.all (· == 0) by have := HX.out; rw [d1, Bool.true_and] at this; exact this)
    clear hx HX
    go_wp2_with fail
    refine (impl_partsOk1.calls x _).mono ?_
    rw [d1]
    rintro e w2 ⟨rfl, hb2⟩
    have HB2 := Aside0.mk (below_step HB.out hb2)
    clear hb2
    go_wp2
    go_roundw
    case rel => exact ⟨k + 1, by omega, by rw [show wrap64 ((k : Int) + 1) = ((k + 1 : Nat) : Int) by have := HL.out; unfold wrap64; omega], HY, HB2⟩
    case measure => rw [show wrap64 ((k : Int) + 1) = ((k + 1 : Nat) : Int) by have := HL.out; unfold wrap64; omega]; simp only [intOf, Int.toNat_natCast]; omega
   ·have d1 : (x == 0) = false := beq_eq_false_iff_ne.mpr hx
    have HY := Aside0.mk (show l.all (· == 0) = false by have := HX.out; rw [d1, Bool.false_and] at this; exact this.symm)
    clear hx HX
    go_wp2_with fail
    refine (impl_partsOk1.calls x _).mono ?_
    rw [d1]
    rintro e w2 ⟨rfl, hb2⟩
    have HB2 := Aside0.mk (below_step HB.out hb2)
    clear hb2
    go_wp2
    go_ret
    exact ⟨by rw [HY.out]; rfl, HB2.out⟩
  ·have d0 : decide ((k : Int) < l.length) = false := decide_eq_false (by omega)
   have HY := Aside0.mk (show l.all (· == 0) = true by rw [← HN.out, List.drop_eq_nil_of_le (by omega)]; rfl)
   go_wp2
   go_ret
   exact ⟨by rw [HY.out]; rfl, HB.out⟩
end Go.Proofs.Ytfbkpjjnhengfaa.K
namespace Go.Proofs.Ytfbkpjjnhengfaa.K
open Go.RowKit Go.Proofs.YtfbkpjjnhengfaaW.PrintWords Go.Proofs.YtfbkpjjnhengfaaW.PrintLast Go.Proofs.YtfbkpjjnhengfaaW.PrintMore
attribute [local go_sem] max2_int min2_int max_two min_two max_three min_three max_four min_four
set_option linter.unusedVariables false
set_option linter.unusedSimpArgs false
def slices_CloneI.f (l0 : List Int) : Option (List Int) := if l0.length ≤ 17592186044416 then some l0 else none
theorem cloneI_nil (n c : Nat) (W : World) : (binOp .eql 24 (.slice none n c) (.slice none 0 0)).run Try.prog W = .ok (.bool true) W := by kernel_rfl
theorem cloneI_some (ad : Addr) (n c : Nat) (W : World) : (binOp .eql 24 (.slice (some ad) n c) (.slice none 0 0)).run Try.prog W = .ok (.bool false) W := by kernel_rfl
set_option maxHeartbeats 4000000 in
set_option maxRecDepth 100000 in
theorem slices_CloneI.calls (A0 : Option Addr) (c0 : Nat) (l0 r : List Int) (w : World) (hr0 : Kd.C (Kd.int .i64) w A0 l0.length l0) (hc0 : l0.length ≤ c0) (h : slices_CloneI.f l0 = some r) :
  Calls Try.prog 88 #[.slice A0 l0.length c0] w fun e w' => ∃ v, e = .returned v ∧ Kd.R (Kd.int .i64) 3 w' w.heap.size (fun _ => True) v r ∧ Below w.heap.size w w' := by
 unfold slices_CloneI.f at h
 split at h
 case isFalse => simp at h
 case isTrue hl =>
 obtain rfl := Option.some.inj h
 have HR0 := Aside0.mk hr0
 have HC0 := Aside0.mk hc0
 have HL := Aside0.mk hl
 clear h hl hc0
 cases A0 with
 | none =>
  have hz : l0 = [] := by
   cases l0 with
   | nil => rfl
   | cons x xs => obtain ⟨ad, _, e, _⟩ := Kd.C_get hr0 x 0 (by omega) (by simp); cases e
  subst hz
  clear hr0
  have N1 := cloneI_nil
  have N2 := cloneI_some
  go_enter Try.func88, Try.ntmps88
  go_wp2
  go_ret
  exact ⟨_, rfl, Kd.R_nil _ _ _ _ _, by repeat (first | exact Below.refl _ _ | apply below_alloc | apply pw_below_drewN | apply below_drew1)⟩
 | some ad =>
  clear hr0
  have N1 := cloneI_nil
  have N2 := cloneI_some
  go_enter Try.func88, Try.ntmps88
  go_wp2_with (first
   | ((with_reducible refine gate_dst (N := 5) rfl ?_); refine Kd.R_lit (Kd.int .i64) _ 3 ?hg (N := 5) ?hd (xs := ([] : List Int)) (inner := []) (ok := fun _ => True) (okp := fun _ => True) ?hr ?hp (fun _ hk => hk) trivial (Below.refl _ _) (Nat.le_refl _) (by simp) ?_; (case hd => rfl); (case hg => rfl); (case hr => first | (go_simp; done) | (go_simp; rfl)); (case hp => exact (Reps.none _ _)); intro v5 w5 ho5 hb5 hg5 hn5; have HO5 := Aside0.mk ho5; have HB5 := Aside0.mk hb5; clear ho5 hb5 hg5 hn5)
   | ((with_reducible refine gate_builtin (b := .append) (xs := #[.tmp 5, .tmp 6]) rfl ?_); at_builtin; refine Kd.R_append_rows (Kd.int .i64) (w0 := w) w.heap.size rfl (.tmp 5) (.tmp 6) 24 3 (.int .i64 0) 8 rfl Try.underlying24 info3 rfl (by decide) (by omega) v5 [] l0 _ _ _ (fun _ => True) (fun _ => False) rfl rfl ?aO ?aR (fun _ _ h => h) (fun _ h => h.elim) (fun _ _ => trivial) ?aB ?aS ?aL ?_; (case aR => exact Kd.C_below HR0.out HB5.out); (case aB => exact HB5.out); (case aO => exact HO5.out); (case aS => exact below_size HB5.out); (case aL => have := HL.out; simp; omega); intro v7 w7 ho7 hb7 hg7 hn7; have HO7 := Aside0.mk ho7; have HB7 := Aside0.mk hb7; clear ho7 hb7 hg7 hn7))
  go_ret
  exact ⟨_, rfl, HO7.out, HB7.out⟩
theorem heap_pair (W : World) (o o' : Obj) : ((W.alloc o).alloc o').heap[W.heap.size]? = some o ∧ ((W.alloc o).alloc o').heap[W.heap.size + 1]? = some o' :=
  ⟨blk_alloc (blk_new W o) o', by simpa using blk_new (W.alloc o) o'⟩
end Go.Proofs.Ytfbkpjjnhengfaa.K
namespace Go.Proofs.Ytfbkpjjnhengfaa.K
open Go.RowKit Go.Proofs.YtfbkpjjnhengfaaW.PrintWords Go.Proofs.YtfbkpjjnhengfaaW.PrintLast Go.Proofs.YtfbkpjjnhengfaaW.PrintMore
attribute [local go_sem] max2_int min2_int max_two min_two max_three min_three max_four min_four
set_option linter.unusedVariables false
set_option linter.unusedSimpArgs false
set_option maxHeartbeats 4000000 in
set_option maxRecDepth 100000 in
theorem Mem_parts.calls (ad : Addr) (n c y : Nat) (a1 a2 a3 : Int) (v4 : Value) (h4 : v4.oneCell' = true) (w : World) (hy : a1 = (y : Int)) (h1 : y ≤ n) (hc : n ≤ c) :
  Calls Try.prog 87 #[.agg #[.slice (some ad) n c, .int .i64 a1, .int .i64 a2, .int .i64 a3, v4]] w fun e w' => e = .returned (.agg #[.slice (some ad) y c, .slice (if c = y then some ad else some (ad.add y)) (n - y) (c - y)]) ∧ Below w.heap.size w w' := by
 have p2 := eq_true (show a1 ≤ (n : Int) by omega)
 have p1 := eq_true (show 0 ≤ a1 by omega)
 have p3 := eq_true (show a1 ≤ (c : Int) by omega)
 have p4 := eq_true (show y ≤ n by omega)
 have p5 := eq_true (show y ≤ c by omega)
 have p6 : a1.toNat = y := by omega
 go_enter Try.func87, Try.ntmps87
 go_wp2
 go_region
 all_goals go_wp2
 all_goals refine bodyPost_ret (results_cell_row rfl _ _ (w.heap.size + 1) 101 _ (0, 0) _ rfl (blk_drew (heap_pair w _ _).2) Try.underlying101 rfl (by kernel_rfl)) rfl ?_
 ·refine ⟨by first | rfl | (simp; done) | (simp; rfl), ?_⟩
  exact below_drew1 (below_alloc (below_alloc (Below.refl _ _) _) _)
 ·refine ⟨?_, below_drew1 (below_alloc (below_alloc (Below.refl _ _) _) _)⟩
  first | rfl | (rw [if_neg (by omega)]; rfl)
theorem Mem_parts.calls2 (ad ad2 : Addr) (n c y z zc : Nat) (a1 a2 a3 : Int) (v4 : Value) (h4 : v4.oneCell' = true) (w : World) (hy : a1 = (y : Int)) (h1 : y ≤ n) (hc : n ≤ c) (h2 : (if c = y then some ad else some (ad.add y)) = some ad2) (hz : n - y = z) (hzc : c - y = zc) :
  Calls Try.prog 87 #[.agg #[.slice (some ad) n c, .int .i64 a1, .int .i64 a2, .int .i64 a3, v4]] w fun e w' => e = .returned (.agg #[.slice (some ad) y c, .slice (some ad2) z zc]) ∧ Below w.heap.size w w' := by
 subst hz hzc
 rw [← h2]
 exact Mem_parts.calls ad n c y a1 a2 a3 v4 h4 w hy h1 hc
end Go.Proofs.Ytfbkpjjnhengfaa.K
