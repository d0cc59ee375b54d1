import Derived.Test.YtfbkpjjnhengfaaPw24
namespace Go.Proofs.Ytfbkpjjnhengfaa.K
open Go.RowKit Go.Proofs.YtfbkpjjnhengfaaW.PrintWords Go.Proofs.YtfbkpjjnhengfaaW.PrintLast Go.Proofs.YtfbkpjjnhengfaaW.PrintMore
attribute [local go_sem] max2_int min2_int max_two min_two max_three min_three max_four min_four
set_option linter.unusedVariables false
set_option linter.unusedSimpArgs false
theorem impl_within.eq (a b c : Int) : impl_within.f a b c = some (decide (a ≤ b ∧ b ≤ c)) := by
 unfold impl_within.f
 split
 ·rename_i h; simp [h]
 ·rename_i h; simp [h]
def cardsN (o : Int) : Int := wrap64 (Int.tdiv (wrap64 ((wrap64 (o + 4)) - 1)) 4)
def pOk (l0 : List Int) (a1 a2 a3 : Int) (l4 : List Bool) : Nat → Bool
 | 0 => decide (0 ≤ a1 ∧ a1 ≤ 40)
 | 1 => decide (14 ≤ wrap64 (l0.length - a1) ∧ wrap64 (l0.length - a1) ≤ 120)
 | 2 => decide (0 ≤ a2 ∧ a2 ≤ a1)
 | 3 => decide (a1 ≤ a3 ∧ a3 ≤ l0.length)
 | 4 => ((l4.length : Int) == cardsN (wrap64 (l0.length - a1)))
 | 5 => ((l0.take a1.toNat).drop a2.toNat).all (· == 0)
 | _ => ((l0.drop a1.toNat).drop (a3 - a1).toNat).all (· == 0)
def impl_partsOk.f (l0 : List Int) (a1 a2 a3 : Int) (l4 : List Bool) : Option Bool := if l0.length ≤ 281474976710656 then some
  (pOk l0 a1 a2 a3 l4 0 && pOk l0 a1 a2 a3 l4 1 && pOk l0 a1 a2 a3 l4 2 && pOk l0 a1 a2 a3 l4 3 && pOk l0 a1 a2 a3 l4 4 && pOk l0 a1 a2 a3 l4 5 && pOk l0 a1 a2 a3 l4 6) else none
set_option maxHeartbeats 8000000 in
set_option maxRecDepth 100000 in
theorem impl_partsOk.calls (A0 : Option Addr) (c0 : Nat) (l0 : List Int) (a1 a2 a3 : Int) (A4 : Option Addr) (c4 : Nat) (l4 : List Bool) (r : Bool) (w : World) (hr0 : Kd.C (Kd.int .i64) w A0 l0.length l0) (hc0 : l0.length ≤ c0) (h : impl_partsOk.f l0 a1 a2 a3 l4 = some r) :
  Calls Try.prog 56 #[.agg #[.slice A0 l0.length c0, .int .i64 a1, .int .i64 a2, .int .i64 a3, .slice A4 l4.length c4]] w fun e w' => e = .returned (.bool r) ∧ Below w.heap.size w w' := by
 unfold impl_partsOk.f at h
 split at h
 case isFalse => simp at h
 case isTrue hl =>
 have HR := Aside0.mk (Option.some.inj h)
 have HR0 := Aside0.mk hr0
 have HC0 := Aside0.mk hc0
 have HL := Aside0.mk hl
 obtain ⟨o, ho⟩ : ∃ o, o = wrap64 ((l0.length : Int) - a1) := ⟨_, rfl⟩
 have HO := Aside0.mk ho
 have q0 : IntKind.i64.wrap ((l0.length : Int) - a1) = o := by rw [ho, i64_w]
 have HB := Aside0.mk (below_alloc (Below.refl w.heap.size w) (.cells #[.slice A0 l0.length c0, .int .i64 a1, .int .i64 a2, .int .i64 a3, .slice A4 l4.length c4] 27 (0, 0)))
 have x0 : (w.alloc (.cells #[.slice A0 l0.length c0, .int .i64 a1, .int .i64 a2, .int .i64 a3, .slice A4 l4.length c4] 27 (0, 0))).cell? ⟨w.heap.size, 0, none⟩ = some (.slice A0 l0.length c0) := (blk_cell (blk_new _ _) 0).trans rfl
 have x1 : (w.alloc (.cells #[.slice A0 l0.length c0, .int .i64 a1, .int .i64 a2, .int .i64 a3, .slice A4 l4.length c4] 27 (0, 0))).cell? ⟨w.heap.size, 1, none⟩ = some (.int .i64 a1) := (blk_cell (blk_new _ _) 1).trans rfl
 have x2 : (w.alloc (.cells #[.slice A0 l0.length c0, .int .i64 a1, .int .i64 a2, .int .i64 a3, .slice A4 l4.length c4] 27 (0, 0))).cell? ⟨w.heap.size, 2, none⟩ = some (.int .i64 a2) := (blk_cell (blk_new _ _) 2).trans rfl
 have x3 : (w.alloc (.cells #[.slice A0 l0.length c0, .int .i64 a1, .int .i64 a2, .int .i64 a3, .slice A4 l4.length c4] 27 (0, 0))).cell? ⟨w.heap.size, 3, none⟩ = some (.int .i64 a3) := (blk_cell (blk_new _ _) 3).trans rfl
 have x4 : (w.alloc (.cells #[.slice A0 l0.length c0, .int .i64 a1, .int .i64 a2, .int .i64 a3, .slice A4 l4.length c4] 27 (0, 0))).cell? ⟨w.heap.size, 4, none⟩ = some (.slice A4 l4.length c4) := (blk_cell (blk_new _ _) 4).trans rfl
 clear h hr0 hc0 hl ho
 cases h0 : pOk l0 a1 a2 a3 l4 0 with
 | false =>
  have B0 := Aside0.mk h0
  clear h0
  have W1 := Aside0.mk (show impl_within.f 0 a1 40 = some false by rw [impl_within.eq]; exact congrArg some (by have := B0.out; unfold pOk at this; exact this))
  have HZ := Aside0.mk (show false = r by rw [← HR.out, B0.out]; rfl)
  clear B0
  go_enter Try.func56, Try.ntmps56
  go_wp2
  refine start_ (n := 56) (S := fun w' => Aside0 (Below w.heap.size w w') ∧ w'.cell? ⟨w.heap.size, 0, none⟩ = some (.slice A0 l0.length c0) ∧ w'.cell? ⟨w.heap.size, 1, none⟩ = some (.int .i64 a1) ∧ w'.cell? ⟨w.heap.size, 2, none⟩ = some (.int .i64 a2) ∧ w'.cell? ⟨w.heap.size, 3, none⟩ = some (.int .i64 a3) ∧ w'.cell? ⟨w.heap.size, 4, none⟩ = some (.slice A4 l4.length c4)) (ds := []) #[false, false, false, false, false, false, false, false, false, false, false, false, false, false, false, false, false, false, false, false, false, false, false, false, false, false, false, false, false, false, false, false, false, false, false, false, false, false, false, false, false, false, false, false, false, false, false, false, false, false, false, false, false, false, false, false] (by kernel_rfl) rfl rfl ⟨⟨below_drew1 HB.out⟩, (by go_simp), (by go_simp), (by go_simp), (by go_simp), (by go_simp)⟩ (fun hHeld => ?_)
  refine pS 0 11 (lA 56 1) ?_
  refine tS 1 12 (lA 56 3) rfl rfl (by kernel_rfl) hHeld z4 ?_
  refine one_ (i := 2) (N := some 13) (lA 56 7) rfl rfl (by kernel_rfl) (by decide) (fun K hK => ?_)
  refine goes_ Try.func79 (by kernel_rfl) rfl #[.int .i64 0, .int .i64 a1, .int .i64 40] (by rfl) rfl rfl z5 ?_
  with_reducible refine (impl_within.calls 0 a1 40 false _ W1.out).mono ?_
  rintro e w3 ⟨rfl, ⟨n1, rfl⟩⟩
  refine ⟨_, rfl, ?_⟩
  refine hK.out _ _ ⟨⟨pw_below_drewN hHeld.1.out _⟩, hHeld.2.1, hHeld.2.2.1, hHeld.2.2.2.1, hHeld.2.2.2.2.1, hHeld.2.2.2.2.2⟩ (fun hHeld => ?_)
  clear hK K
  refine norm_ (a' := ?_) ?_ ?_
  rotate_left
  ·show Act.put _ (some 13) _ = _
   simp only [Act.put, lA1, lA2, lA3, i64_w, i32_w]
   rfl
  refine pS 3 14 (lA 56 15) ?_
  refine pU 4 15 (lA 56 31) ?_
  refine pU 5 16 (lA 56 63) ?_
  refine pS 6 17 (lA 56 127) ?_
  refine pS 7 18 (lA 56 255) ?_
  refine pU 8 19 (lA 56 511) ?_
  refine pU 9 20 (lA 56 1023) ?_
  refine pU 10 21 (lA 56 2047) ?_
  refine pU 11 22 (lA 56 4095) ?_
  refine pU 12 23 (lA 56 8191) ?_
  refine pS 13 24 (lA 56 16383) ?_
  refine pS 14 25 (lA 56 32767) ?_
  refine pU 15 26 (lA 56 65535) ?_
  refine pU 16 27 (lA 56 131071) ?_
  refine pU 17 28 (lA 56 262143) ?_
  refine pU 18 29 (lA 56 524287) ?_
  refine pU 19 30 (lA 56 1048575) ?_
  refine pU 20 31 (lA 56 2097151) ?_
  refine pU 21 32 (lA 56 4194303) ?_
  refine pU 22 33 (lA 56 8388607) ?_
  refine pS 23 34 (lA 56 16777215) ?_
  refine pS 24 35 (lA 56 33554431) ?_
  refine pU 25 36 (lA 56 67108863) ?_
  refine pU 26 37 (lA 56 134217727) ?_
  refine pU 27 38 (lA 56 268435455) ?_
  refine pU 28 39 (lA 56 536870911) ?_
  refine pU 29 40 (lA 56 1073741823) ?_
  refine pU 30 41 (lA 56 2147483647) ?_
  refine pS 31 42 (lA 56 4294967295) ?_
  refine pS 32 43 (lA 56 8589934591) ?_
  refine pU 33 44 (lA 56 17179869183) ?_
  refine pU 34 45 (lA 56 34359738367) ?_
  refine pU 35 46 (lA 56 68719476735) ?_
  refine pU 36 47 (lA 56 137438953471) ?_
  refine pU 37 48 (lA 56 274877906943) ?_
  refine pU 38 49 (lA 56 549755813887) ?_
  refine pU 39 50 (lA 56 1099511627775) ?_
  refine pU 40 51 (lA 56 2199023255551) ?_
  refine pS 41 52 (lA 56 4398046511103) ?_
  refine pS 42 53 (lA 56 8796093022207) ?_
  refine pU 43 54 (lA 56 17592186044415) ?_
  refine pU 44 55 (lA 56 35184372088831) ?_
  refine pU 45 56 (lA 56 70368744177663) ?_
  refine pU 46 57 (lA 56 140737488355327) ?_
  refine pU 47 58 (lA 56 281474976710655) ?_
  refine pU 48 59 (lA 56 562949953421311) ?_
  refine pU 49 60 (lA 56 1125899906842623) ?_
  refine pU 50 61 (lA 56 2251799813685247) ?_
  refine pU 51 62 (lA 56 4503599627370495) ?_
  refine pU 52 63 (lA 56 9007199254740991) ?_
  refine pU 53 64 (lA 56 18014398509481983) ?_
  refine pS 54 65 (lA 56 36028797018963967) ?_
  refine pS 55 2 (lA 56 72057594037927935) ?_
  refine done_ (by kernel_rfl) ?_
  go_wp2
  go_ret
  exact ⟨by rw [← HZ.out]; rfl, hHeld.1.out⟩
 | true =>
 have B0 := Aside0.mk h0
 clear h0
 cases h1 : pOk l0 a1 a2 a3 l4 1 with
 | false =>
  have B1 := Aside0.mk h1
  clear h1
  have W1 := Aside0.mk (show impl_within.f 0 a1 40 = some true by rw [impl_within.eq]; exact congrArg some (by have := B0.out; unfold pOk at this; exact this))
  have W2 := Aside0.mk (show impl_within.f 14 o 120 = some false by rw [impl_within.eq]; exact congrArg some z32)
  have HZ := Aside0.mk (show false = r by rw [← HR.out, B0.out, B1.out]; rfl)
  clear B0 B1
  go_enter Try.func56, Try.ntmps56
  go_wp2
  refine start_ (n := 56) (S := fun w' => Aside0 (Below w.heap.size w w') ∧ w'.cell? ⟨w.heap.size, 0, none⟩ = some (.slice A0 l0.length c0) ∧ w'.cell? ⟨w.heap.size, 1, none⟩ = some (.int .i64 a1) ∧ w'.cell? ⟨w.heap.size, 2, none⟩ = some (.int .i64 a2) ∧ w'.cell? ⟨w.heap.size, 3, none⟩ = some (.int .i64 a3) ∧ w'.cell? ⟨w.heap.size, 4, none⟩ = some (.slice A4 l4.length c4)) (ds := []) #[false, false, false, false, false, false, false, false, false, false, false, false, false, false, false, false, false, false, false, false, false, false, false, false, false, false, false, false, false, false, false, false, false, false, false, false, false, false, false, false, false, false, false, false, false, false, false, false, false, false, false, false, false, false, false, false] (by kernel_rfl) rfl rfl ⟨⟨below_drew1 HB.out⟩, (by go_simp), (by go_simp), (by go_simp), (by go_simp), (by go_simp)⟩ (fun hHeld => ?_)
  refine pS 0 11 (lA 56 1) ?_
  refine tS 1 12 (lA 56 3) rfl rfl (by kernel_rfl) hHeld z4 ?_
  refine one_ (i := 2) (N := some 13) (lA 56 7) rfl rfl (by kernel_rfl) (by decide) (fun K hK => ?_)
  refine goes_ Try.func79 (by kernel_rfl) rfl #[.int .i64 0, .int .i64 a1, .int .i64 40] (by rfl) rfl rfl z5 ?_
  with_reducible refine (impl_within.calls 0 a1 40 true _ W1.out).mono ?_
  rintro e w3 ⟨rfl, ⟨n1, rfl⟩⟩
  refine ⟨_, rfl, ?_⟩
  refine hK.out _ _ ⟨⟨pw_below_drewN hHeld.1.out _⟩, hHeld.2.1, hHeld.2.2.1, hHeld.2.2.2.1, hHeld.2.2.2.2.1, hHeld.2.2.2.2.2⟩ (fun hHeld => ?_)
  clear hK K
  refine norm_ (a' := ?_) ?_ ?_
  rotate_left
  ·show Act.put _ (some 13) _ = _
   simp only [Act.put, lA1, lA2, lA3, i64_w, i32_w]
   rfl
  refine pS 3 14 (lA 56 15) ?_
  refine pS 4 15 (lA 56 31) ?_
  refine one_ (i := 5) (N := some 16) (lA 56 63) rfl rfl (by kernel_rfl) (by decide) (fun K hK => ?_)
  refine goes_ Try.func79 (by kernel_rfl) rfl #[.int .i64 14, .int .i64 o, .int .i64 120] (by rfl) rfl rfl z5 ?_
  with_reducible refine (impl_within.calls 14 o 120 false _ W2.out).mono ?_
  rintro e w3 ⟨rfl, ⟨n1, rfl⟩⟩
  refine ⟨_, rfl, ?_⟩
  refine hK.out _ _ ⟨⟨pw_below_drewN hHeld.1.out _⟩, hHeld.2.1, hHeld.2.2.1, hHeld.2.2.2.1, hHeld.2.2.2.2.1, hHeld.2.2.2.2.2⟩ (fun hHeld => ?_)
  clear hK K
  refine norm_ (a' := ?_) ?_ ?_
  rotate_left
  ·show Act.put _ (some 16) _ = _
   simp only [Act.put, lA1, lA2, lA3, i64_w, i32_w]
   rfl
  refine pS 6 17 (lA 56 127) ?_
  refine pS 7 18 (lA 56 255) ?_
  refine pU 8 19 (lA 56 511) ?_
  refine pU 9 20 (lA 56 1023) ?_
  refine pU 10 21 (lA 56 2047) ?_
  refine pU 11 22 (lA 56 4095) ?_
  refine pU 12 23 (lA 56 8191) ?_
  refine pS 13 24 (lA 56 16383) ?_
  refine pS 14 25 (lA 56 32767) ?_
  refine pU 15 26 (lA 56 65535) ?_
  refine pU 16 27 (lA 56 131071) ?_
  refine pU 17 28 (lA 56 262143) ?_
  refine pU 18 29 (lA 56 524287) ?_
  refine pU 19 30 (lA 56 1048575) ?_
  refine pU 20 31 (lA 56 2097151) ?_
  refine pU 21 32 (lA 56 4194303) ?_
  refine pU 22 33 (lA 56 8388607) ?_
  refine pS 23 34 (lA 56 16777215) ?_
  refine pS 24 35 (lA 56 33554431) ?_
  refine pU 25 36 (lA 56 67108863) ?_
  refine pU 26 37 (lA 56 134217727) ?_
  refine pU 27 38 (lA 56 268435455) ?_
  refine pU 28 39 (lA 56 536870911) ?_
  refine pU 29 40 (lA 56 1073741823) ?_
  refine pU 30 41 (lA 56 2147483647) ?_
  refine pS 31 42 (lA 56 4294967295) ?_
  refine pS 32 43 (lA 56 8589934591) ?_
  refine pU 33 44 (lA 56 17179869183) ?_
  refine pU 34 45 (lA 56 34359738367) ?_
  refine pU 35 46 (lA 56 68719476735) ?_
  refine pU 36 47 (lA 56 137438953471) ?_
  refine pU 37 48 (lA 56 274877906943) ?_
  refine pU 38 49 (lA 56 549755813887) ?_
  refine pU 39 50 (lA 56 1099511627775) ?_
  refine pU 40 51 (lA 56 2199023255551) ?_
  refine pS 41 52 (lA 56 4398046511103) ?_
  refine pS 42 53 (lA 56 8796093022207) ?_
  refine pU 43 54 (lA 56 17592186044415) ?_
  refine pU 44 55 (lA 56 35184372088831) ?_
  refine pU 45 56 (lA 56 70368744177663) ?_
  refine pU 46 57 (lA 56 140737488355327) ?_
  refine pU 47 58 (lA 56 281474976710655) ?_
  refine pU 48 59 (lA 56 562949953421311) ?_
  refine pU 49 60 (lA 56 1125899906842623) ?_
  refine pU 50 61 (lA 56 2251799813685247) ?_
  refine pU 51 62 (lA 56 4503599627370495) ?_
  refine pU 52 63 (lA 56 9007199254740991) ?_
  refine pU 53 64 (lA 56 18014398509481983) ?_
  refine pS 54 65 (lA 56 36028797018963967) ?_
  refine pS 55 2 (lA 56 72057594037927935) ?_
  refine done_ (by kernel_rfl) ?_
  go_wp2
  go_ret
  exact ⟨by rw [← HZ.out]; rfl, hHeld.1.out⟩
 | true =>
 have B1 := Aside0.mk h1
 clear h1
 cases h2 : pOk l0 a1 a2 a3 l4 2 with
 | false =>
  have B2 := Aside0.mk h2
  clear h2
  have W1 := Aside0.mk (show impl_within.f 0 a1 40 = some true by rw [impl_within.eq]; exact congrArg some (by have := B0.out; unfold pOk at this; exact this))
  have W2 := Aside0.mk (show impl_within.f 14 o 120 = some true by rw [impl_within.eq]; exact congrArg some z32)
  have W3 := Aside0.mk (show impl_within.f 0 a2 a1 = some false by rw [impl_within.eq]; exact congrArg some (by have := B2.out; unfold pOk at this; exact this))
  have HZ := Aside0.mk (show false = r by rw [← HR.out, B0.out, B1.out, B2.out]; rfl)
  clear B0 B1 B2
  go_enter Try.func56, Try.ntmps56
  go_wp2
  refine start_ (n := 56) (S := fun w' => Aside0 (Below w.heap.size w w') ∧ w'.cell? ⟨w.heap.size, 0, none⟩ = some (.slice A0 l0.length c0) ∧ w'.cell? ⟨w.heap.size, 1, none⟩ = some (.int .i64 a1) ∧ w'.cell? ⟨w.heap.size, 2, none⟩ = some (.int .i64 a2) ∧ w'.cell? ⟨w.heap.size, 3, none⟩ = some (.int .i64 a3) ∧ w'.cell? ⟨w.heap.size, 4, none⟩ = some (.slice A4 l4.length c4)) (ds := []) #[false, false, false, false, false, false, false, false, false, false, false, false, false, false, false, false, false, false, false, false, false, false, false, false, false, false, false, false, false, false, false, false, false, false, false, false, false, false, false, false, false, false, false, false, false, false, false, false, false, false, false, false, false, false, false, false] (by kernel_rfl) rfl rfl ⟨⟨below_drew1 HB.out⟩, (by go_simp), (by go_simp), (by go_simp), (by go_simp), (by go_simp)⟩ (fun hHeld => ?_)
  refine pS 0 11 (lA 56 1) ?_
  refine tS 1 12 (lA 56 3) rfl rfl (by kernel_rfl) hHeld z4 ?_
  refine one_ (i := 2) (N := some 13) (lA 56 7) rfl rfl (by kernel_rfl) (by decide) (fun K hK => ?_)
  refine goes_ Try.func79 (by kernel_rfl) rfl #[.int .i64 0, .int .i64 a1, .int .i64 40] (by rfl) rfl rfl z5 ?_
  with_reducible refine (impl_within.calls 0 a1 40 true _ W1.out).mono ?_
  rintro e w3 ⟨rfl, ⟨n1, rfl⟩⟩
  refine ⟨_, rfl, ?_⟩
  refine hK.out _ _ ⟨⟨pw_below_drewN hHeld.1.out _⟩, hHeld.2.1, hHeld.2.2.1, hHeld.2.2.2.1, hHeld.2.2.2.2.1, hHeld.2.2.2.2.2⟩ (fun hHeld => ?_)
  clear hK K
  refine norm_ (a' := ?_) ?_ ?_
  rotate_left
  ·show Act.put _ (some 13) _ = _
   simp only [Act.put, lA1, lA2, lA3, i64_w, i32_w]
   rfl
  refine pS 3 14 (lA 56 15) ?_
  refine pS 4 15 (lA 56 31) ?_
  refine one_ (i := 5) (N := some 16) (lA 56 63) rfl rfl (by kernel_rfl) (by decide) (fun K hK => ?_)
  refine goes_ Try.func79 (by kernel_rfl) rfl #[.int .i64 14, .int .i64 o, .int .i64 120] (by rfl) rfl rfl z5 ?_
  with_reducible refine (impl_within.calls 14 o 120 true _ W2.out).mono ?_
  rintro e w3 ⟨rfl, ⟨n1, rfl⟩⟩
  refine ⟨_, rfl, ?_⟩
  refine hK.out _ _ ⟨⟨pw_below_drewN hHeld.1.out _⟩, hHeld.2.1, hHeld.2.2.1, hHeld.2.2.2.1, hHeld.2.2.2.2.1, hHeld.2.2.2.2.2⟩ (fun hHeld => ?_)
  clear hK K
  refine norm_ (a' := ?_) ?_ ?_
  rotate_left
  ·show Act.put _ (some 16) _ = _
   simp only [Act.put, lA1, lA2, lA3, i64_w, i32_w]
   rfl
  refine pS 6 17 (lA 56 127) ?_
  refine pS 7 18 (lA 56 255) ?_
  refine pS 8 19 (lA 56 511) ?_
  refine pS 10 21 (lA 56 1535) ?_
  refine tS 9 20 (lA 56 2047) rfl rfl (by kernel_rfl) hHeld z4 ?_
  refine tS 11 22 (lA 56 4095) rfl rfl (by kernel_rfl) hHeld z4 ?_
  refine one_ (i := 12) (N := some 23) (lA 56 8191) rfl rfl (by kernel_rfl) (by decide) (fun K hK => ?_)
  refine goes_ Try.func79 (by kernel_rfl) rfl #[.int .i64 0, .int .i64 a2, .int .i64 a1] (by rfl) rfl rfl z5 ?_
  with_reducible refine (impl_within.calls 0 a2 a1 false _ W3.out).mono ?_
  rintro e w3 ⟨rfl, ⟨n1, rfl⟩⟩
  refine ⟨_, rfl, ?_⟩
  refine hK.out _ _ ⟨⟨pw_below_drewN hHeld.1.out _⟩, hHeld.2.1, hHeld.2.2.1, hHeld.2.2.2.1, hHeld.2.2.2.2.1, hHeld.2.2.2.2.2⟩ (fun hHeld => ?_)
  clear hK K
  refine norm_ (a' := ?_) ?_ ?_
  rotate_left
  ·show Act.put _ (some 23) _ = _
   simp only [Act.put, lA1, lA2, lA3, i64_w, i32_w]
   rfl
  refine pS 13 24 (lA 56 16383) ?_
  refine pS 14 25 (lA 56 32767) ?_
  refine pU 15 26 (lA 56 65535) ?_
  refine pU 16 27 (lA 56 131071) ?_
  refine pU 17 28 (lA 56 262143) ?_
  refine pU 18 29 (lA 56 524287) ?_
  refine pU 19 30 (lA 56 1048575) ?_
  refine pU 20 31 (lA 56 2097151) ?_
  refine pU 21 32 (lA 56 4194303) ?_
  refine pU 22 33 (lA 56 8388607) ?_
  refine pS 23 34 (lA 56 16777215) ?_
  refine pS 24 35 (lA 56 33554431) ?_
  refine pU 25 36 (lA 56 67108863) ?_
  refine pU 26 37 (lA 56 134217727) ?_
  refine pU 27 38 (lA 56 268435455) ?_
  refine pU 28 39 (lA 56 536870911) ?_
  refine pU 29 40 (lA 56 1073741823) ?_
  refine pU 30 41 (lA 56 2147483647) ?_
  refine pS 31 42 (lA 56 4294967295) ?_
  refine pS 32 43 (lA 56 8589934591) ?_
  refine pU 33 44 (lA 56 17179869183) ?_
  refine pU 34 45 (lA 56 34359738367) ?_
  refine pU 35 46 (lA 56 68719476735) ?_
  refine pU 36 47 (lA 56 137438953471) ?_
  refine pU 37 48 (lA 56 274877906943) ?_
  refine pU 38 49 (lA 56 549755813887) ?_
  refine pU 39 50 (lA 56 1099511627775) ?_
  refine pU 40 51 (lA 56 2199023255551) ?_
  refine pS 41 52 (lA 56 4398046511103) ?_
  refine pS 42 53 (lA 56 8796093022207) ?_
  refine pU 43 54 (lA 56 17592186044415) ?_
  refine pU 44 55 (lA 56 35184372088831) ?_
  refine pU 45 56 (lA 56 70368744177663) ?_
  refine pU 46 57 (lA 56 140737488355327) ?_
  refine pU 47 58 (lA 56 281474976710655) ?_
  refine pU 48 59 (lA 56 562949953421311) ?_
  refine pU 49 60 (lA 56 1125899906842623) ?_
  refine pU 50 61 (lA 56 2251799813685247) ?_
  refine pU 51 62 (lA 56 4503599627370495) ?_
  refine pU 52 63 (lA 56 9007199254740991) ?_
  refine pU 53 64 (lA 56 18014398509481983) ?_
  refine pS 54 65 (lA 56 36028797018963967) ?_
  refine pS 55 2 (lA 56 72057594037927935) ?_
  refine done_ (by kernel_rfl) ?_
  go_wp2
  go_ret
  exact ⟨by rw [← HZ.out]; rfl, hHeld.1.out⟩
 | true =>
 have B2 := Aside0.mk h2
 clear h2
 cases h3 : pOk l0 a1 a2 a3 l4 3 with
 | false =>
  have B3 := Aside0.mk h3
  clear h3
  have W1 := Aside0.mk (show impl_within.f 0 a1 40 = some true by rw [impl_within.eq]; exact congrArg some (by have := B0.out; unfold pOk at this; exact this))
  have W2 := Aside0.mk (show impl_within.f 14 o 120 = some true by rw [impl_within.eq]; exact congrArg some z32)
  have W3 := Aside0.mk (show impl_within.f 0 a2 a1 = some true by rw [impl_within.eq]; exact congrArg some (by have := B2.out; unfold pOk at this; exact this))
  have W4 := Aside0.mk (show impl_within.f a1 a3 (l0.length : Int) = some false by rw [impl_within.eq]; exact congrArg some (by have := B3.out; unfold pOk at this; exact this))
  have HZ := Aside0.mk (show false = r by rw [← HR.out, B0.out, B1.out, B2.out, B3.out]; rfl)
  clear B0 B1 B2 B3
  go_enter Try.func56, Try.ntmps56
  go_wp2
  refine start_ (n := 56) (S := fun w' => Aside0 (Below w.heap.size w w') ∧ w'.cell? ⟨w.heap.size, 0, none⟩ = some (.slice A0 l0.length c0) ∧ w'.cell? ⟨w.heap.size, 1, none⟩ = some (.int .i64 a1) ∧ w'.cell? ⟨w.heap.size, 2, none⟩ = some (.int .i64 a2) ∧ w'.cell? ⟨w.heap.size, 3, none⟩ = some (.int .i64 a3) ∧ w'.cell? ⟨w.heap.size, 4, none⟩ = some (.slice A4 l4.length c4)) (ds := []) #[false, false, false, false, false, false, false, false, false, false, false, false, false, false, false, false, false, false, false, false, false, false, false, false, false, false, false, false, false, false, false, false, false, false, false, false, false, false, false, false, false, false, false, false, false, false, false, false, false, false, false, false, false, false, false, false] (by kernel_rfl) rfl rfl ⟨⟨below_drew1 HB.out⟩, (by go_simp), (by go_simp), (by go_simp), (by go_simp), (by go_simp)⟩ (fun hHeld => ?_)
  refine pS 0 11 (lA 56 1) ?_
  refine tS 1 12 (lA 56 3) rfl rfl (by kernel_rfl) hHeld z4 ?_
  refine one_ (i := 2) (N := some 13) (lA 56 7) rfl rfl (by kernel_rfl) (by decide) (fun K hK => ?_)
  refine goes_ Try.func79 (by kernel_rfl) rfl #[.int .i64 0, .int .i64 a1, .int .i64 40] (by rfl) rfl rfl z5 ?_
  with_reducible refine (impl_within.calls 0 a1 40 true _ W1.out).mono ?_
  rintro e w3 ⟨rfl, ⟨n1, rfl⟩⟩
  refine ⟨_, rfl, ?_⟩
  refine hK.out _ _ ⟨⟨pw_below_drewN hHeld.1.out _⟩, hHeld.2.1, hHeld.2.2.1, hHeld.2.2.2.1, hHeld.2.2.2.2.1, hHeld.2.2.2.2.2⟩ (fun hHeld => ?_)
  clear hK K
  refine norm_ (a' := ?_) ?_ ?_
  rotate_left
  ·show Act.put _ (some 13) _ = _
   simp only [Act.put, lA1, lA2, lA3, i64_w, i32_w]
   rfl
  refine pS 3 14 (lA 56 15) ?_
  refine pS 4 15 (lA 56 31) ?_
  refine one_ (i := 5) (N := some 16) (lA 56 63) rfl rfl (by kernel_rfl) (by decide) (fun K hK => ?_)
  refine goes_ Try.func79 (by kernel_rfl) rfl #[.int .i64 14, .int .i64 o, .int .i64 120] (by rfl) rfl rfl z5 ?_
  with_reducible refine (impl_within.calls 14 o 120 true _ W2.out).mono ?_
  rintro e w3 ⟨rfl, ⟨n1, rfl⟩⟩
  refine ⟨_, rfl, ?_⟩
  refine hK.out _ _ ⟨⟨pw_below_drewN hHeld.1.out _⟩, hHeld.2.1, hHeld.2.2.1, hHeld.2.2.2.1, hHeld.2.2.2.2.1, hHeld.2.2.2.2.2⟩ (fun hHeld => ?_)
  clear hK K
  refine norm_ (a' := ?_) ?_ ?_
  rotate_left
  ·show Act.put _ (some 16) _ = _
   simp only [Act.put, lA1, lA2, lA3, i64_w, i32_w]
   rfl
  refine pS 6 17 (lA 56 127) ?_
  refine pS 7 18 (lA 56 255) ?_
  refine pS 8 19 (lA 56 511) ?_
  refine pS 10 21 (lA 56 1535) ?_
  refine tS 9 20 (lA 56 2047) rfl rfl (by kernel_rfl) hHeld z4 ?_
  refine tS 11 22 (lA 56 4095) rfl rfl (by kernel_rfl) hHeld z4 ?_
  refine one_ (i := 12) (N := some 23) (lA 56 8191) rfl rfl (by kernel_rfl) (by decide) (fun K hK => ?_)
  refine goes_ Try.func79 (by kernel_rfl) rfl #[.int .i64 0, .int .i64 a2, .int .i64 a1] (by rfl) rfl rfl z5 ?_
  with_reducible refine (impl_within.calls 0 a2 a1 true _ W3.out).mono ?_
  rintro e w3 ⟨rfl, ⟨n1, rfl⟩⟩
  refine ⟨_, rfl, ?_⟩
  refine hK.out _ _ ⟨⟨pw_below_drewN hHeld.1.out _⟩, hHeld.2.1, hHeld.2.2.1, hHeld.2.2.2.1, hHeld.2.2.2.2.1, hHeld.2.2.2.2.2⟩ (fun hHeld => ?_)
  clear hK K
  refine norm_ (a' := ?_) ?_ ?_
  rotate_left
  ·show Act.put _ (some 23) _ = _
   simp only [Act.put, lA1, lA2, lA3, i64_w, i32_w]
   rfl
  refine pS 13 24 (lA 56 16383) ?_
  refine pS 14 25 (lA 56 32767) ?_
  refine pS 15 26 (lA 56 65535) ?_
  refine pS 17 28 (lA 56 196607) ?_
  refine pS 19 30 (lA 56 720895) ?_
  refine tS 16 27 (lA 56 786431) rfl rfl (by kernel_rfl) hHeld z4 ?_
  refine tS 18 29 (lA 56 1048575) rfl rfl (by kernel_rfl) hHeld z4 ?_
  refine tS 20 31 (lA 56 2097151) rfl rfl (by kernel_rfl) hHeld z4 ?_
  refine pS 21 32 (lA 56 4194303) ?_
  refine one_ (i := 22) (N := some 33) (lA 56 8388607) rfl rfl (by kernel_rfl) (by decide) (fun K hK => ?_)
  refine goes_ Try.func79 (by kernel_rfl) rfl #[.int .i64 a1, .int .i64 a3, .int .i64 (l0.length : Int)] (by rfl) rfl rfl z5 ?_
  with_reducible refine (impl_within.calls a1 a3 (l0.length : Int) false _ W4.out).mono ?_
  rintro e w3 ⟨rfl, ⟨n1, rfl⟩⟩
  refine ⟨_, rfl, ?_⟩
  refine hK.out _ _ ⟨⟨pw_below_drewN hHeld.1.out _⟩, hHeld.2.1, hHeld.2.2.1, hHeld.2.2.2.1, hHeld.2.2.2.2.1, hHeld.2.2.2.2.2⟩ (fun hHeld => ?_)
  clear hK K
  refine norm_ (a' := ?_) ?_ ?_
  rotate_left
  ·show Act.put _ (some 33) _ = _
   simp only [Act.put, lA1, lA2, lA3, i64_w, i32_w]
   rfl
  refine pS 23 34 (lA 56 16777215) ?_
  refine pS 24 35 (lA 56 33554431) ?_
  refine pU 25 36 (lA 56 67108863) ?_
  refine pU 26 37 (lA 56 134217727) ?_
  refine pU 27 38 (lA 56 268435455) ?_
  refine pU 28 39 (lA 56 536870911) ?_
  refine pU 29 40 (lA 56 1073741823) ?_
  refine pU 30 41 (lA 56 2147483647) ?_
  refine pS 31 42 (lA 56 4294967295) ?_
  refine pS 32 43 (lA 56 8589934591) ?_
  refine pU 33 44 (lA 56 17179869183) ?_
  refine pU 34 45 (lA 56 34359738367) ?_
  refine pU 35 46 (lA 56 68719476735) ?_
  refine pU 36 47 (lA 56 137438953471) ?_
  refine pU 37 48 (lA 56 274877906943) ?_
  refine pU 38 49 (lA 56 549755813887) ?_
  refine pU 39 50 (lA 56 1099511627775) ?_
  refine pU 40 51 (lA 56 2199023255551) ?_
  refine pS 41 52 (lA 56 4398046511103) ?_
  refine pS 42 53 (lA 56 8796093022207) ?_
  refine pU 43 54 (lA 56 17592186044415) ?_
  refine pU 44 55 (lA 56 35184372088831) ?_
  refine pU 45 56 (lA 56 70368744177663) ?_
  refine pU 46 57 (lA 56 140737488355327) ?_
  refine pU 47 58 (lA 56 281474976710655) ?_
  refine pU 48 59 (lA 56 562949953421311) ?_
  refine pU 49 60 (lA 56 1125899906842623) ?_
  refine pU 50 61 (lA 56 2251799813685247) ?_
  refine pU 51 62 (lA 56 4503599627370495) ?_
  refine pU 52 63 (lA 56 9007199254740991) ?_
  refine pU 53 64 (lA 56 18014398509481983) ?_
  refine pS 54 65 (lA 56 36028797018963967) ?_
  refine pS 55 2 (lA 56 72057594037927935) ?_
  refine done_ (by kernel_rfl) ?_
  go_wp2
  go_ret
  exact ⟨by rw [← HZ.out]; rfl, hHeld.1.out⟩
 | true =>
 have B3 := Aside0.mk h3
 clear h3
 cases h4 : pOk l0 a1 a2 a3 l4 4 with
 | false =>
  have B4 := Aside0.mk h4
  clear h4
  have W1 := Aside0.mk (show impl_within.f 0 a1 40 = some true by rw [impl_within.eq]; exact congrArg some (by have := B0.out; unfold pOk at this; exact this))
  have W2 := Aside0.mk (show impl_within.f 14 o 120 = some true by rw [impl_within.eq]; exact congrArg some z32)
  have W3 := Aside0.mk (show impl_within.f 0 a2 a1 = some true by rw [impl_within.eq]; exact congrArg some (by have := B2.out; unfold pOk at this; exact this))
  have W4 := Aside0.mk (show impl_within.f a1 a3 (l0.length : Int) = some true by rw [impl_within.eq]; exact congrArg some (by have := B3.out; unfold pOk at this; exact this))
  obtain ⟨cn, hcn⟩ : ∃ cn, cn = cardsN o := ⟨_, rfl⟩
  have W5 := Aside0.mk (show impl_cardsOf.f o = some cn by rw [hcn]; rfl)
  have e5 : ((l4.length : Int) == cn) = false := by have := B4.out; unfold pOk at this; rw [hcn, HO.out]; exact this
  clear hcn
  have HZ := Aside0.mk (show false = r by rw [← HR.out, B0.out, B1.out, B2.out, B3.out, B4.out]; rfl)
  clear B0 B1 B2 B3 B4
  go_enter Try.func56, Try.ntmps56
  go_wp2
  refine start_ (n := 56) (S := fun w' => Aside0 (Below w.heap.size w w') ∧ w'.cell? ⟨w.heap.size, 0, none⟩ = some (.slice A0 l0.length c0) ∧ w'.cell? ⟨w.heap.size, 1, none⟩ = some (.int .i64 a1) ∧ w'.cell? ⟨w.heap.size, 2, none⟩ = some (.int .i64 a2) ∧ w'.cell? ⟨w.heap.size, 3, none⟩ = some (.int .i64 a3) ∧ w'.cell? ⟨w.heap.size, 4, none⟩ = some (.slice A4 l4.length c4)) (ds := []) #[false, false, false, false, false, false, false, false, false, false, false, false, false, false, false, false, false, false, false, false, false, false, false, false, false, false, false, false, false, false, false, false, false, false, false, false, false, false, false, false, false, false, false, false, false, false, false, false, false, false, false, false, false, false, false, false] (by kernel_rfl) rfl rfl ⟨⟨below_drew1 HB.out⟩, (by go_simp), (by go_simp), (by go_simp), (by go_simp), (by go_simp)⟩ (fun hHeld => ?_)
  refine pS 0 11 (lA 56 1) ?_
  refine tS 1 12 (lA 56 3) rfl rfl (by kernel_rfl) hHeld z4 ?_
  refine one_ (i := 2) (N := some 13) (lA 56 7) rfl rfl (by kernel_rfl) (by decide) (fun K hK => ?_)
  refine goes_ Try.func79 (by kernel_rfl) rfl #[.int .i64 0, .int .i64 a1, .int .i64 40] (by rfl) rfl rfl z5 ?_
  with_reducible refine (impl_within.calls 0 a1 40 true _ W1.out).mono ?_
  rintro e w3 ⟨rfl, ⟨n1, rfl⟩⟩
  refine ⟨_, rfl, ?_⟩
  refine hK.out _ _ ⟨⟨pw_below_drewN hHeld.1.out _⟩, hHeld.2.1, hHeld.2.2.1, hHeld.2.2.2.1, hHeld.2.2.2.2.1, hHeld.2.2.2.2.2⟩ (fun hHeld => ?_)
  clear hK K
  refine norm_ (a' := ?_) ?_ ?_
  rotate_left
  ·show Act.put _ (some 13) _ = _
   simp only [Act.put, lA1, lA2, lA3, i64_w, i32_w]
   rfl
  refine pS 3 14 (lA 56 15) ?_
  refine pS 4 15 (lA 56 31) ?_
  refine one_ (i := 5) (N := some 16) (lA 56 63) rfl rfl (by kernel_rfl) (by decide) (fun K hK => ?_)
  refine goes_ Try.func79 (by kernel_rfl) rfl #[.int .i64 14, .int .i64 o, .int .i64 120] (by rfl) rfl rfl z5 ?_
  with_reducible refine (impl_within.calls 14 o 120 true _ W2.out).mono ?_
  rintro e w3 ⟨rfl, ⟨n1, rfl⟩⟩
  refine ⟨_, rfl, ?_⟩
  refine hK.out _ _ ⟨⟨pw_below_drewN hHeld.1.out _⟩, hHeld.2.1, hHeld.2.2.1, hHeld.2.2.2.1, hHeld.2.2.2.2.1, hHeld.2.2.2.2.2⟩ (fun hHeld => ?_)
  clear hK K
  refine norm_ (a' := ?_) ?_ ?_
  rotate_left
  ·show Act.put _ (some 16) _ = _
   simp only [Act.put, lA1, lA2, lA3, i64_w, i32_w]
   rfl
  refine pS 6 17 (lA 56 127) ?_
  refine pS 7 18 (lA 56 255) ?_
  refine pS 8 19 (lA 56 511) ?_
  refine pS 10 21 (lA 56 1535) ?_
  refine tS 9 20 (lA 56 2047) rfl rfl (by kernel_rfl) hHeld z4 ?_
  refine tS 11 22 (lA 56 4095) rfl rfl (by kernel_rfl) hHeld z4 ?_
  refine one_ (i := 12) (N := some 23) (lA 56 8191) rfl rfl (by kernel_rfl) (by decide) (fun K hK => ?_)
  refine goes_ Try.func79 (by kernel_rfl) rfl #[.int .i64 0, .int .i64 a2, .int .i64 a1] (by rfl) rfl rfl z5 ?_
  with_reducible refine (impl_within.calls 0 a2 a1 true _ W3.out).mono ?_
  rintro e w3 ⟨rfl, ⟨n1, rfl⟩⟩
  refine ⟨_, rfl, ?_⟩
  refine hK.out _ _ ⟨⟨pw_below_drewN hHeld.1.out _⟩, hHeld.2.1, hHeld.2.2.1, hHeld.2.2.2.1, hHeld.2.2.2.2.1, hHeld.2.2.2.2.2⟩ (fun hHeld => ?_)
  clear hK K
  refine norm_ (a' := ?_) ?_ ?_
  rotate_left
  ·show Act.put _ (some 23) _ = _
   simp only [Act.put, lA1, lA2, lA3, i64_w, i32_w]
   rfl
  refine pS 13 24 (lA 56 16383) ?_
  refine pS 14 25 (lA 56 32767) ?_
  refine pS 15 26 (lA 56 65535) ?_
  refine pS 17 28 (lA 56 196607) ?_
  refine pS 19 30 (lA 56 720895) ?_
  refine tS 16 27 (lA 56 786431) rfl rfl (by kernel_rfl) hHeld z4 ?_
  refine tS 18 29 (lA 56 1048575) rfl rfl (by kernel_rfl) hHeld z4 ?_
  refine tS 20 31 (lA 56 2097151) rfl rfl (by kernel_rfl) hHeld z4 ?_
  refine pS 21 32 (lA 56 4194303) ?_
  refine one_ (i := 22) (N := some 33) (lA 56 8388607) rfl rfl (by kernel_rfl) (by decide) (fun K hK => ?_)
  refine goes_ Try.func79 (by kernel_rfl) rfl #[.int .i64 a1, .int .i64 a3, .int .i64 (l0.length : Int)] (by rfl) rfl rfl z5 ?_
  with_reducible refine (impl_within.calls a1 a3 (l0.length : Int) true _ W4.out).mono ?_
  rintro e w3 ⟨rfl, ⟨n1, rfl⟩⟩
  refine ⟨_, rfl, ?_⟩
  refine hK.out _ _ ⟨⟨pw_below_drewN hHeld.1.out _⟩, hHeld.2.1, hHeld.2.2.1, hHeld.2.2.2.1, hHeld.2.2.2.2.1, hHeld.2.2.2.2.2⟩ (fun hHeld => ?_)
  clear hK K
  refine norm_ (a' := ?_) ?_ ?_
  rotate_left
  ·show Act.put _ (some 33) _ = _
   simp only [Act.put, lA1, lA2, lA3, i64_w, i32_w]
   rfl
  refine pS 23 34 (lA 56 16777215) ?_
  refine pS 24 35 (lA 56 33554431) ?_
  refine pS 25 36 (lA 56 67108863) ?_
  refine pS 28 39 (lA 56 335544319) ?_
  refine tS 26 37 (lA 56 402653183) rfl rfl (by kernel_rfl) hHeld z4 ?_
  refine pS 27 38 (lA 56 536870911) ?_
  refine one_ (i := 29) (N := some 40) (lA 56 1073741823) rfl rfl (by kernel_rfl) (by decide) (fun K hK => ?_)
  refine goes_ Try.func85 (by kernel_rfl) rfl #[.int .i64 o] (by rfl) rfl rfl z5 ?_
  with_reducible refine (impl_cardsOf.calls o cn _ W5.out).mono ?_
  rintro e w3 ⟨rfl, ⟨n1, rfl⟩⟩
  refine ⟨_, rfl, ?_⟩
  refine hK.out _ _ ⟨⟨pw_below_drewN hHeld.1.out _⟩, hHeld.2.1, hHeld.2.2.1, hHeld.2.2.2.1, hHeld.2.2.2.2.1, hHeld.2.2.2.2.2⟩ (fun hHeld => ?_)
  clear hK K
  refine norm_ (a' := ?_) ?_ ?_
  rotate_left
  ·show Act.put _ (some 40) _ = _
   simp only [Act.put, lA1, lA2, lA3, i64_w, i32_w]
   rfl
  refine pS 30 41 (lA 56 2147483647) ?_
  refine pS 31 42 (lA 56 4294967295) ?_
  refine pS 32 43 (lA 56 8589934591) ?_
  refine pU 33 44 (lA 56 17179869183) ?_
  refine pU 34 45 (lA 56 34359738367) ?_
  refine pU 35 46 (lA 56 68719476735) ?_
  refine pU 36 47 (lA 56 137438953471) ?_
  refine pU 37 48 (lA 56 274877906943) ?_
  refine pU 38 49 (lA 56 549755813887) ?_
  refine pU 39 50 (lA 56 1099511627775) ?_
  refine pU 40 51 (lA 56 2199023255551) ?_
  refine pS 41 52 (lA 56 4398046511103) ?_
  refine pS 42 53 (lA 56 8796093022207) ?_
  refine pU 43 54 (lA 56 17592186044415) ?_
  refine pU 44 55 (lA 56 35184372088831) ?_
  refine pU 45 56 (lA 56 70368744177663) ?_
  refine pU 46 57 (lA 56 140737488355327) ?_
  refine pU 47 58 (lA 56 281474976710655) ?_
  refine pU 48 59 (lA 56 562949953421311) ?_
  refine pU 49 60 (lA 56 1125899906842623) ?_
  refine pU 50 61 (lA 56 2251799813685247) ?_
  refine pU 51 62 (lA 56 4503599627370495) ?_
  refine pU 52 63 (lA 56 9007199254740991) ?_
  refine pU 53 64 (lA 56 18014398509481983) ?_
  refine pS 54 65 (lA 56 36028797018963967) ?_
  refine pS 55 2 (lA 56 72057594037927935) ?_
  refine done_ (by kernel_rfl) ?_
  go_wp2
  go_ret
  exact ⟨by rw [← HZ.out]; rfl, hHeld.1.out⟩
 | true =>
 have B4 := Aside0.mk h4
 clear h4
 cases h5 : pOk l0 a1 a2 a3 l4 5 with
 | false =>
  have B5 := Aside0.mk h5
  clear h5
  have W1 := Aside0.mk (show impl_within.f 0 a1 40 = some true by rw [impl_within.eq]; exact congrArg some (by have := B0.out; unfold pOk at this; exact this))
  have W2 := Aside0.mk (show impl_within.f 14 o 120 = some true by rw [impl_within.eq]; exact congrArg some z32)
  have W3 := Aside0.mk (show impl_within.f 0 a2 a1 = some true by rw [impl_within.eq]; exact congrArg some (by have := B2.out; unfold pOk at this; exact this))
  have W4 := Aside0.mk (show impl_within.f a1 a3 (l0.length : Int) = some true by rw [impl_within.eq]; exact congrArg some (by have := B3.out; unfold pOk at this; exact this))
  obtain ⟨cn, hcn⟩ : ∃ cn, cn = cardsN o := ⟨_, rfl⟩
  have W5 := Aside0.mk (show impl_cardsOf.f o = some cn by rw [hcn]; rfl)
  have e5 : ((l4.length : Int) == cn) = true := by have := B4.out; unfold pOk at this; rw [hcn, HO.out]; exact this
  clear hcn
  have b0 := B0.out
  have b1 := B1.out
  have b2 := B2.out
  have b3 := B3.out
  unfold pOk at b0 b1 b2 b3
  have b0 := of_decide_eq_true b0
  have b1 := of_decide_eq_true b1
  have b2 := of_decide_eq_true b2
  have b3 := of_decide_eq_true b3
  rw [← HO.out] at b1
  obtain ⟨y, hy⟩ : ∃ y : Nat, a1 = (y : Int) := ⟨a1.toNat, by omega⟩
  have hyl : y ≤ l0.length := by omega
  have hz2 : a2.toNat ≤ y := by omega
  have hy0 : a1.toNat = y := by omega
  obtain ⟨ad, had⟩ : ∃ ad, A0 = some ad := by
   have h0 := HO.out
   have hL := HL.out
   obtain ⟨ad, e, _⟩ := Kd.at_int HR0.out 0 (by omega) (by unfold wrap64 at h0; omega)
   exact ⟨ad, e⟩
  subst had
  have P1 := Aside0.mk hy
  have P2 := Aside0.mk hyl
  have P3 := Aside0.mk HC0.out
  obtain ⟨ad2, h2⟩ : ∃ ad2, (if c0 = y then some ad else some (ad.add y)) = some ad2 := by
   by_cases h : c0 = y
   ·exact ⟨ad, if_pos h⟩
   ·exact ⟨ad.add y, if_neg h⟩
  obtain ⟨z, hz⟩ : ∃ z, l0.length - y = z := ⟨_, rfl⟩
  obtain ⟨zc, hzc⟩ : ∃ zc, c0 - y = zc := ⟨_, rfl⟩
  have P4 := Aside0.mk h2
  have P5 := Aside0.mk hz
  have P6 := Aside0.mk hzc
  obtain ⟨i3, hi3, _, hsz3, _⟩ := info_parts info3
  have IX0 : ∀ W : World, (Instr.index 101 (.agg #[.slice (some ad) y c0, .slice (some ad2) z zc]) (.int .i64 0)).run Try.prog W = .ok (.slice (some ad) y c0) W := fun W => by kernel_rfl
  have IX1 : ∀ W : World, (Instr.index 101 (.agg #[.slice (some ad) y c0, .slice (some ad2) z zc]) (.int .i64 1)).run Try.prog W = .ok (.slice (some ad2) z zc) W := fun W => by kernel_rfl
  obtain ⟨E1, hE1⟩ : ∃ E1 : Option Addr, E1 = if c0 = a2.toNat then some ad else (some ad).map (·.add (a2.toNat * 1)) := ⟨_, rfl⟩
  obtain ⟨L1, hL1⟩ : ∃ L1, L1 = (l0.take y).drop a2.toNat := ⟨_, rfl⟩
  have n1 : L1.length = y - a2.toNat := by rw [hL1, List.length_drop, List.length_take, Nat.min_eq_left hyl]
  have SL1 := cut_from (P := Try.prog) 24 3 .i64 Try.underlying24 hi3 1 hsz3 (some ad) y c0 a2 (by omega) (by omega)
  rw [← hE1, ← n1] at SL1
  have HE1 := Aside0.mk (show Kd.C (Kd.int .i64) w E1 L1.length L1 by
   have hT := Kd.C_take HR0.out hyl
   have hD := Kd.C_drop (c := c0) hT (m := a2.toNat) (by rw [List.length_take]; omega) (by rw [List.length_take]; have := HC0.out; omega)
   rw [← hL1] at hD
   rw [hE1]
   exact hD)
  have HEl1 := Aside0.mk (show L1.length ≤ 281474976710656 by have := HL.out; rw [n1]; omega)
  have HV1 := Aside0.mk (show L1.all (· == 0) = false by have := B5.out; unfold pOk at this; rw [hy0, ← hL1] at this; exact this)
  have HZ := Aside0.mk (show false = r by rw [← HR.out, B0.out, B1.out, B2.out, B3.out, B4.out, B5.out]; rfl)
  clear hy hy0 hyl hz2 b0 b1 b2 b3 hL1 hE1 n1 h2 hz hzc hi3 hsz3
  go_enter Try.func56, Try.ntmps56
  go_wp2
  refine start_ (n := 56) (S := fun w' => Aside0 (Below w.heap.size w w') ∧ w'.cell? ⟨w.heap.size, 0, none⟩ = some (.slice (some ad) l0.length c0) ∧ w'.cell? ⟨w.heap.size, 1, none⟩ = some (.int .i64 a1) ∧ w'.cell? ⟨w.heap.size, 2, none⟩ = some (.int .i64 a2) ∧ w'.cell? ⟨w.heap.size, 3, none⟩ = some (.int .i64 a3) ∧ w'.cell? ⟨w.heap.size, 4, none⟩ = some (.slice A4 l4.length c4)) (ds := []) #[false, false, false, false, false, false, false, false, false, false, false, false, false, false, false, false, false, false, false, false, false, false, false, false, false, false, false, false, false, false, false, false, false, false, false, false, false, false, false, false, false, false, false, false, false, false, false, false, false, false, false, false, false, false, false, false] (by kernel_rfl) rfl rfl ⟨⟨below_drew1 HB.out⟩, (by go_simp), (by go_simp), (by go_simp), (by go_simp), (by go_simp)⟩ (fun hHeld => ?_)
  refine pS 0 11 (lA 56 1) ?_
  refine tS 1 12 (lA 56 3) rfl rfl (by kernel_rfl) hHeld z4 ?_
  refine one_ (i := 2) (N := some 13) (lA 56 7) rfl rfl (by kernel_rfl) (by decide) (fun K hK => ?_)
  refine goes_ Try.func79 (by kernel_rfl) rfl #[.int .i64 0, .int .i64 a1, .int .i64 40] (by rfl) rfl rfl z5 ?_
  with_reducible refine (impl_within.calls 0 a1 40 true _ W1.out).mono ?_
  rintro e w3 ⟨rfl, ⟨n1, rfl⟩⟩
  refine ⟨_, rfl, ?_⟩
  refine hK.out _ _ ⟨⟨pw_below_drewN hHeld.1.out _⟩, hHeld.2.1, hHeld.2.2.1, hHeld.2.2.2.1, hHeld.2.2.2.2.1, hHeld.2.2.2.2.2⟩ (fun hHeld => ?_)
  clear hK K
  refine norm_ (a' := ?_) ?_ ?_
  rotate_left
  ·show Act.put _ (some 13) _ = _
   simp only [Act.put, lA1, lA2, lA3, i64_w, i32_w]
   rfl
  refine pS 3 14 (lA 56 15) ?_
  refine pS 4 15 (lA 56 31) ?_
  refine one_ (i := 5) (N := some 16) (lA 56 63) rfl rfl (by kernel_rfl) (by decide) (fun K hK => ?_)
  refine goes_ Try.func79 (by kernel_rfl) rfl #[.int .i64 14, .int .i64 o, .int .i64 120] (by rfl) rfl rfl z5 ?_
  with_reducible refine (impl_within.calls 14 o 120 true _ W2.out).mono ?_
  rintro e w3 ⟨rfl, ⟨n1, rfl⟩⟩
  refine ⟨_, rfl, ?_⟩
  refine hK.out _ _ ⟨⟨pw_below_drewN hHeld.1.out _⟩, hHeld.2.1, hHeld.2.2.1, hHeld.2.2.2.1, hHeld.2.2.2.2.1, hHeld.2.2.2.2.2⟩ (fun hHeld => ?_)
  clear hK K
  refine norm_ (a' := ?_) ?_ ?_
  rotate_left
  ·show Act.put _ (some 16) _ = _
   simp only [Act.put, lA1, lA2, lA3, i64_w, i32_w]
   rfl
  refine pS 6 17 (lA 56 127) ?_
  refine pS 7 18 (lA 56 255) ?_
  refine pS 8 19 (lA 56 511) ?_
  refine pS 10 21 (lA 56 1535) ?_
  refine tS 9 20 (lA 56 2047) rfl rfl (by kernel_rfl) hHeld z4 ?_
  refine tS 11 22 (lA 56 4095) rfl rfl (by kernel_rfl) hHeld z4 ?_
  refine one_ (i := 12) (N := some 23) (lA 56 8191) rfl rfl (by kernel_rfl) (by decide) (fun K hK => ?_)
  refine goes_ Try.func79 (by kernel_rfl) rfl #[.int .i64 0, .int .i64 a2, .int .i64 a1] (by rfl) rfl rfl z5 ?_
  with_reducible refine (impl_within.calls 0 a2 a1 true _ W3.out).mono ?_
  rintro e w3 ⟨rfl, ⟨n1, rfl⟩⟩
  refine ⟨_, rfl, ?_⟩
  refine hK.out _ _ ⟨⟨pw_below_drewN hHeld.1.out _⟩, hHeld.2.1, hHeld.2.2.1, hHeld.2.2.2.1, hHeld.2.2.2.2.1, hHeld.2.2.2.2.2⟩ (fun hHeld => ?_)
  clear hK K
  refine norm_ (a' := ?_) ?_ ?_
  rotate_left
  ·show Act.put _ (some 23) _ = _
   simp only [Act.put, lA1, lA2, lA3, i64_w, i32_w]
   rfl
  refine pS 13 24 (lA 56 16383) ?_
  refine pS 14 25 (lA 56 32767) ?_
  refine pS 15 26 (lA 56 65535) ?_
  refine pS 17 28 (lA 56 196607) ?_
  refine pS 19 30 (lA 56 720895) ?_
  refine tS 16 27 (lA 56 786431) rfl rfl (by kernel_rfl) hHeld z4 ?_
  refine tS 18 29 (lA 56 1048575) rfl rfl (by kernel_rfl) hHeld z4 ?_
  refine tS 20 31 (lA 56 2097151) rfl rfl (by kernel_rfl) hHeld z4 ?_
  refine pS 21 32 (lA 56 4194303) ?_
  refine one_ (i := 22) (N := some 33) (lA 56 8388607) rfl rfl (by kernel_rfl) (by decide) (fun K hK => ?_)
  refine goes_ Try.func79 (by kernel_rfl) rfl #[.int .i64 a1, .int .i64 a3, .int .i64 (l0.length : Int)] (by rfl) rfl rfl z5 ?_
  with_reducible refine (impl_within.calls a1 a3 (l0.length : Int) true _ W4.out).mono ?_
  rintro e w3 ⟨rfl, ⟨n1, rfl⟩⟩
  refine ⟨_, rfl, ?_⟩
  refine hK.out _ _ ⟨⟨pw_below_drewN hHeld.1.out _⟩, hHeld.2.1, hHeld.2.2.1, hHeld.2.2.2.1, hHeld.2.2.2.2.1, hHeld.2.2.2.2.2⟩ (fun hHeld => ?_)
  clear hK K
  refine norm_ (a' := ?_) ?_ ?_
  rotate_left
  ·show Act.put _ (some 33) _ = _
   simp only [Act.put, lA1, lA2, lA3, i64_w, i32_w]
   rfl
  refine pS 23 34 (lA 56 16777215) ?_
  refine pS 24 35 (lA 56 33554431) ?_
  refine pS 25 36 (lA 56 67108863) ?_
  refine pS 28 39 (lA 56 335544319) ?_
  refine tS 26 37 (lA 56 402653183) rfl rfl (by kernel_rfl) hHeld z4 ?_
  refine pS 27 38 (lA 56 536870911) ?_
  refine one_ (i := 29) (N := some 40) (lA 56 1073741823) rfl rfl (by kernel_rfl) (by decide) (fun K hK => ?_)
  refine goes_ Try.func85 (by kernel_rfl) rfl #[.int .i64 o] (by rfl) rfl rfl z5 ?_
  with_reducible refine (impl_cardsOf.calls o cn _ W5.out).mono ?_
  rintro e w3 ⟨rfl, ⟨n1, rfl⟩⟩
  refine ⟨_, rfl, ?_⟩
  refine hK.out _ _ ⟨⟨pw_below_drewN hHeld.1.out _⟩, hHeld.2.1, hHeld.2.2.1, hHeld.2.2.2.1, hHeld.2.2.2.2.1, hHeld.2.2.2.2.2⟩ (fun hHeld => ?_)
  clear hK K
  refine norm_ (a' := ?_) ?_ ?_
  rotate_left
  ·show Act.put _ (some 40) _ = _
   simp only [Act.put, lA1, lA2, lA3, i64_w, i32_w]
   rfl
  refine pS 30 41 (lA 56 2147483647) ?_
  refine pS 31 42 (lA 56 4294967295) ?_
  refine pS 32 43 (lA 56 8589934591) ?_
  refine pS 36 47 (lA 56 77309411327) ?_
  refine pS 39 50 (lA 56 627065225215) ?_
  refine tS 33 44 (lA 56 635655159807) rfl rfl (by kernel_rfl) hHeld z4 ?_
  refine tS 37 48 (lA 56 773094113279) rfl rfl (by kernel_rfl) hHeld z4 ?_
  refine one_ (i := 34) (N := some 45) (lA 56 790273982463) rfl rfl (by kernel_rfl) (by decide) (fun K hK => ?_)
  refine goes_ Try.func87 (by kernel_rfl) rfl #[.agg #[.slice (some ad) l0.length c0, .int .i64 a1, .int .i64 a2, .int .i64 a3, .slice A4 l4.length c4]] (by rfl) rfl rfl z5 ?_
  with_reducible refine (Mem_parts.calls2 ad ad2 l0.length c0 y z zc a1 a2 a3 (.slice A4 l4.length c4) rfl _ P1.out P2.out P3.out P4.out P5.out P6.out).mono ?_
  rintro e w3 ⟨rfl, hb3⟩
  refine ⟨_, rfl, ?_⟩
  refine hK.out _ _ ⟨⟨below_step hHeld.1.out hb3⟩, (pw_cell_below hb3 hHeld.2.1), (pw_cell_below hb3 hHeld.2.2.1), (pw_cell_below hb3 hHeld.2.2.2.1), (pw_cell_below hb3 hHeld.2.2.2.2.1), (pw_cell_below hb3 hHeld.2.2.2.2.2)⟩ (fun hHeld => ?_)
  clear hK K
  refine norm_ (a' := ?_) ?_ ?_
  rotate_left
  ·show Act.put _ (some 45) _ = _
   simp only [Act.put, lA1, lA2, lA3, i64_w, i32_w]
   rfl
  refine tS 35 46 (lA 56 824633720831) rfl rfl (by kernel_rfl) hHeld z4 ?_
  refine pS 38 49 (lA 56 1099511627775) ?_
  refine one_ (i := 40) (N := some 51) (lA 56 2199023255551) rfl rfl (by kernel_rfl) (by decide) (fun K hK => ?_)
  refine goes_ Try.func86 (by kernel_rfl) rfl #[.slice E1 L1.length (c0 - a2.toNat), .func (.func 84) #[] #[]] (by rfl) rfl rfl z5 ?_
  with_reducible refine (impl_every.calls E1 (c0 - a2.toNat) L1 _ (Kd.C_below HE1.out hHeld.1.out) HEl1.out).mono ?_
  rintro e w3 ⟨rfl, hb3⟩
  rw [HV1.out]
  refine ⟨_, rfl, ?_⟩
  refine hK.out _ _ ⟨⟨below_step hHeld.1.out hb3⟩, (pw_cell_below hb3 hHeld.2.1), (pw_cell_below hb3 hHeld.2.2.1), (pw_cell_below hb3 hHeld.2.2.2.1), (pw_cell_below hb3 hHeld.2.2.2.2.1), (pw_cell_below hb3 hHeld.2.2.2.2.2)⟩ (fun hHeld => ?_)
  clear hK K
  refine norm_ (a' := ?_) ?_ ?_
  rotate_left
  ·show Act.put _ (some 51) _ = _
   simp only [Act.put, lA1, lA2, lA3, i64_w, i32_w]
   rfl
  refine pS 41 52 (lA 56 4398046511103) ?_
  refine pS 42 53 (lA 56 8796093022207) ?_
  refine pU 43 54 (lA 56 17592186044415) ?_
  refine pU 44 55 (lA 56 35184372088831) ?_
  refine pU 45 56 (lA 56 70368744177663) ?_
  refine pU 46 57 (lA 56 140737488355327) ?_
  refine pU 47 58 (lA 56 281474976710655) ?_
  refine pU 48 59 (lA 56 562949953421311) ?_
  refine pU 49 60 (lA 56 1125899906842623) ?_
  refine pU 50 61 (lA 56 2251799813685247) ?_
  refine pU 51 62 (lA 56 4503599627370495) ?_
  refine pU 52 63 (lA 56 9007199254740991) ?_
  refine pU 53 64 (lA 56 18014398509481983) ?_
  refine pS 54 65 (lA 56 36028797018963967) ?_
  refine pS 55 2 (lA 56 72057594037927935) ?_
  refine done_ (by kernel_rfl) ?_
  go_wp2
  go_ret
  exact ⟨by rw [← HZ.out]; rfl, hHeld.1.out⟩
 | true =>
 have B5 := Aside0.mk h5
 clear h5
 cases h6 : pOk l0 a1 a2 a3 l4 6 with
 | false =>
  have B6 := Aside0.mk h6
  clear h6
  have W1 := Aside0.mk (show impl_within.f 0 a1 40 = some true by rw [impl_within.eq]; exact congrArg some (by have := B0.out; unfold pOk at this; exact this))
  have W2 := Aside0.mk (show impl_within.f 14 o 120 = some true by rw [impl_within.eq]; exact congrArg some z32)
  have W3 := Aside0.mk (show impl_within.f 0 a2 a1 = some true by rw [impl_within.eq]; exact congrArg some (by have := B2.out; unfold pOk at this; exact this))
  have W4 := Aside0.mk (show impl_within.f a1 a3 (l0.length : Int) = some true by rw [impl_within.eq]; exact congrArg some (by have := B3.out; unfold pOk at this; exact this))
  obtain ⟨cn, hcn⟩ : ∃ cn, cn = cardsN o := ⟨_, rfl⟩
  have W5 := Aside0.mk (show impl_cardsOf.f o = some cn by rw [hcn]; rfl)
  have e5 : ((l4.length : Int) == cn) = true := by have := B4.out; unfold pOk at this; rw [hcn, HO.out]; exact this
  clear hcn
  have b0 := B0.out
  have b1 := B1.out
  have b2 := B2.out
  have b3 := B3.out
  unfold pOk at b0 b1 b2 b3
  have b0 := of_decide_eq_true b0
  have b1 := of_decide_eq_true b1
  have b2 := of_decide_eq_true b2
  have b3 := of_decide_eq_true b3
  rw [← HO.out] at b1
  obtain ⟨y, hy⟩ : ∃ y : Nat, a1 = (y : Int) := ⟨a1.toNat, by omega⟩
  have hyl : y ≤ l0.length := by omega
  have hz2 : a2.toNat ≤ y := by omega
  have hy0 : a1.toNat = y := by omega
  obtain ⟨ad, had⟩ : ∃ ad, A0 = some ad := by
   have h0 := HO.out
   have hL := HL.out
   obtain ⟨ad, e, _⟩ := Kd.at_int HR0.out 0 (by omega) (by unfold wrap64 at h0; omega)
   exact ⟨ad, e⟩
  subst had
  have P1 := Aside0.mk hy
  have P2 := Aside0.mk hyl
  have P3 := Aside0.mk HC0.out
  obtain ⟨ad2, h2⟩ : ∃ ad2, (if c0 = y then some ad else some (ad.add y)) = some ad2 := by
   by_cases h : c0 = y
   ·exact ⟨ad, if_pos h⟩
   ·exact ⟨ad.add y, if_neg h⟩
  obtain ⟨z, hz⟩ : ∃ z, l0.length - y = z := ⟨_, rfl⟩
  obtain ⟨zc, hzc⟩ : ∃ zc, c0 - y = zc := ⟨_, rfl⟩
  have P4 := Aside0.mk h2
  have P5 := Aside0.mk hz
  have P6 := Aside0.mk hzc
  obtain ⟨i3, hi3, _, hsz3, _⟩ := info_parts info3
  have IX0 : ∀ W : World, (Instr.index 101 (.agg #[.slice (some ad) y c0, .slice (some ad2) z zc]) (.int .i64 0)).run Try.prog W = .ok (.slice (some ad) y c0) W := fun W => by kernel_rfl
  have IX1 : ∀ W : World, (Instr.index 101 (.agg #[.slice (some ad) y c0, .slice (some ad2) z zc]) (.int .i64 1)).run Try.prog W = .ok (.slice (some ad2) z zc) W := fun W => by kernel_rfl
  obtain ⟨E1, hE1⟩ : ∃ E1 : Option Addr, E1 = if c0 = a2.toNat then some ad else (some ad).map (·.add (a2.toNat * 1)) := ⟨_, rfl⟩
  obtain ⟨L1, hL1⟩ : ∃ L1, L1 = (l0.take y).drop a2.toNat := ⟨_, rfl⟩
  have n1 : L1.length = y - a2.toNat := by rw [hL1, List.length_drop, List.length_take, Nat.min_eq_left hyl]
  have SL1 := cut_from (P := Try.prog) 24 3 .i64 Try.underlying24 hi3 1 hsz3 (some ad) y c0 a2 (by omega) (by omega)
  rw [← hE1, ← n1] at SL1
  have HE1 := Aside0.mk (show Kd.C (Kd.int .i64) w E1 L1.length L1 by
   have hT := Kd.C_take HR0.out hyl
   have hD := Kd.C_drop (c := c0) hT (m := a2.toNat) (by rw [List.length_take]; omega) (by rw [List.length_take]; have := HC0.out; omega)
   rw [← hL1] at hD
   rw [hE1]
   exact hD)
  have HEl1 := Aside0.mk (show L1.length ≤ 281474976710656 by have := HL.out; rw [n1]; omega)
  have HV1 := Aside0.mk (show L1.all (· == 0) = true by have := B5.out; unfold pOk at this; rw [hy0, ← hL1] at this; exact this)
  obtain ⟨d, hd⟩ : ∃ d, d = a3 - a1 := ⟨_, rfl⟩
  have q2 : IntKind.i64.wrap (a3 - a1) = d := by rw [hd]; exact IntWalk.i64_in _ ⟨by have := HL.out; omega, by have := HL.out; omega⟩
  obtain ⟨E2, hE2⟩ : ∃ E2 : Option Addr, E2 = if zc = d.toNat then some ad2 else (some ad2).map (·.add (d.toNat * 1)) := ⟨_, rfl⟩
  obtain ⟨L2, hL2⟩ : ∃ L2, L2 = (l0.drop y).drop d.toNat := ⟨_, rfl⟩
  have n2 : L2.length = z - d.toNat := by rw [hL2, List.length_drop, List.length_drop, hz]
  have SL2 := cut_from (P := Try.prog) 24 3 .i64 Try.underlying24 hi3 1 hsz3 (some ad2) z zc d (by omega) (by omega)
  rw [← hE2, ← n2] at SL2
  have HE2 := Aside0.mk (show Kd.C (Kd.int .i64) w E2 L2.length L2 by
   have hT := Kd.C_drop (c := c0) HR0.out hyl HC0.out
   have e2 : (if c0 = y then some ad else (some ad).map (·.add (y * (Kd.int .i64).sz))) = some ad2 := by rw [← h2]; show (if c0 = y then some ad else some (ad.add (y * 1))) = _; rw [Nat.mul_one]
   rw [e2] at hT
   have hD := Kd.C_drop (c := zc) hT (m := d.toNat) (by rw [List.length_drop]; omega) (by rw [List.length_drop]; have := HC0.out; omega)
   rw [← hL2] at hD
   rw [hE2]
   exact hD)
  have HEl2 := Aside0.mk (show L2.length ≤ 281474976710656 by have := HL.out; rw [n2]; omega)
  have HV2 := Aside0.mk (show L2.all (· == 0) = false by have := B6.out; unfold pOk at this; rw [hy0, ← hd, ← hL2] at this; exact this)
  have HZ := Aside0.mk (show false = r by rw [← HR.out, B0.out, B1.out, B2.out, B3.out, B4.out, B5.out, B6.out]; rfl)
  clear hy hy0 hyl hz2 b0 b1 b2 b3 hL1 hE1 n1 h2 hz hzc hi3 hsz3 hd hL2 hE2 n2
  go_enter Try.func56, Try.ntmps56
  go_wp2
  refine start_ (n := 56) (S := fun w' => Aside0 (Below w.heap.size w w') ∧ w'.cell? ⟨w.heap.size, 0, none⟩ = some (.slice (some ad) l0.length c0) ∧ w'.cell? ⟨w.heap.size, 1, none⟩ = some (.int .i64 a1) ∧ w'.cell? ⟨w.heap.size, 2, none⟩ = some (.int .i64 a2) ∧ w'.cell? ⟨w.heap.size, 3, none⟩ = some (.int .i64 a3) ∧ w'.cell? ⟨w.heap.size, 4, none⟩ = some (.slice A4 l4.length c4)) (ds := []) #[false, false, false, false, false, false, false, false, false, false, false, false, false, false, false, false, false, false, false, false, false, false, false, false, false, false, false, false, false, false, false, false, false, false, false, false, false, false, false, false, false, false, false, false, false, false, false, false, false, false, false, false, false, false, false, false] (by kernel_rfl) rfl rfl ⟨⟨below_drew1 HB.out⟩, (by go_simp), (by go_simp), (by go_simp), (by go_simp), (by go_simp)⟩ (fun hHeld => ?_)
  refine pS 0 11 (lA 56 1) ?_
  refine tS 1 12 (lA 56 3) rfl rfl (by kernel_rfl) hHeld z4 ?_
  refine one_ (i := 2) (N := some 13) (lA 56 7) rfl rfl (by kernel_rfl) (by decide) (fun K hK => ?_)
  refine goes_ Try.func79 (by kernel_rfl) rfl #[.int .i64 0, .int .i64 a1, .int .i64 40] (by rfl) rfl rfl z5 ?_
  with_reducible refine (impl_within.calls 0 a1 40 true _ W1.out).mono ?_
  rintro e w3 ⟨rfl, ⟨n1, rfl⟩⟩
  refine ⟨_, rfl, ?_⟩
  refine hK.out _ _ ⟨⟨pw_below_drewN hHeld.1.out _⟩, hHeld.2.1, hHeld.2.2.1, hHeld.2.2.2.1, hHeld.2.2.2.2.1, hHeld.2.2.2.2.2⟩ (fun hHeld => ?_)
  clear hK K
  refine norm_ (a' := ?_) ?_ ?_
  rotate_left
  ·show Act.put _ (some 13) _ = _
   simp only [Act.put, lA1, lA2, lA3, i64_w, i32_w]
   rfl
  refine pS 3 14 (lA 56 15) ?_
  refine pS 4 15 (lA 56 31) ?_
  refine one_ (i := 5) (N := some 16) (lA 56 63) rfl rfl (by kernel_rfl) (by decide) (fun K hK => ?_)
  refine goes_ Try.func79 (by kernel_rfl) rfl #[.int .i64 14, .int .i64 o, .int .i64 120] (by rfl) rfl rfl z5 ?_
  with_reducible refine (impl_within.calls 14 o 120 true _ W2.out).mono ?_
  rintro e w3 ⟨rfl, ⟨n1, rfl⟩⟩
  refine ⟨_, rfl, ?_⟩
  refine hK.out _ _ ⟨⟨pw_below_drewN hHeld.1.out _⟩, hHeld.2.1, hHeld.2.2.1, hHeld.2.2.2.1, hHeld.2.2.2.2.1, hHeld.2.2.2.2.2⟩ (fun hHeld => ?_)
  clear hK K
  refine norm_ (a' := ?_) ?_ ?_
  rotate_left
  ·show Act.put _ (some 16) _ = _
   simp only [Act.put, lA1, lA2, lA3, i64_w, i32_w]
   rfl
  refine pS 6 17 (lA 56 127) ?_
  refine pS 7 18 (lA 56 255) ?_
  refine pS 8 19 (lA 56 511) ?_
  refine pS 10 21 (lA 56 1535) ?_
  refine tS 9 20 (lA 56 2047) rfl rfl (by kernel_rfl) hHeld z4 ?_
  refine tS 11 22 (lA 56 4095) rfl rfl (by kernel_rfl) hHeld z4 ?_
  refine one_ (i := 12) (N := some 23) (lA 56 8191) rfl rfl (by kernel_rfl) (by decide) (fun K hK => ?_)
  refine goes_ Try.func79 (by kernel_rfl) rfl #[.int .i64 0, .int .i64 a2, .int .i64 a1] (by rfl) rfl rfl z5 ?_
  with_reducible refine (impl_within.calls 0 a2 a1 true _ W3.out).mono ?_
  rintro e w3 ⟨rfl, ⟨n1, rfl⟩⟩
  refine ⟨_, rfl, ?_⟩
  refine hK.out _ _ ⟨⟨pw_below_drewN hHeld.1.out _⟩, hHeld.2.1, hHeld.2.2.1, hHeld.2.2.2.1, hHeld.2.2.2.2.1, hHeld.2.2.2.2.2⟩ (fun hHeld => ?_)
  clear hK K
  refine norm_ (a' := ?_) ?_ ?_
  rotate_left
  ·show Act.put _ (some 23) _ = _
   simp only [Act.put, lA1, lA2, lA3, i64_w, i32_w]
   rfl
  refine pS 13 24 (lA 56 16383) ?_
  refine pS 14 25 (lA 56 32767) ?_
  refine pS 15 26 (lA 56 65535) ?_
  refine pS 17 28 (lA 56 196607) ?_
  refine pS 19 30 (lA 56 720895) ?_
  refine tS 16 27 (lA 56 786431) rfl rfl (by kernel_rfl) hHeld z4 ?_
  refine tS 18 29 (lA 56 1048575) rfl rfl (by kernel_rfl) hHeld z4 ?_
  refine tS 20 31 (lA 56 2097151) rfl rfl (by kernel_rfl) hHeld z4 ?_
  refine pS 21 32 (lA 56 4194303) ?_
  refine one_ (i := 22) (N := some 33) (lA 56 8388607) rfl rfl (by kernel_rfl) (by decide) (fun K hK => ?_)
  refine goes_ Try.func79 (by kernel_rfl) rfl #[.int .i64 a1, .int .i64 a3, .int .i64 (l0.length : Int)] (by rfl) rfl rfl z5 ?_
  with_reducible refine (impl_within.calls a1 a3 (l0.length : Int) true _ W4.out).mono ?_
  rintro e w3 ⟨rfl, ⟨n1, rfl⟩⟩
  refine ⟨_, rfl, ?_⟩
  refine hK.out _ _ ⟨⟨pw_below_drewN hHeld.1.out _⟩, hHeld.2.1, hHeld.2.2.1, hHeld.2.2.2.1, hHeld.2.2.2.2.1, hHeld.2.2.2.2.2⟩ (fun hHeld => ?_)
  clear hK K
  refine norm_ (a' := ?_) ?_ ?_
  rotate_left
  ·show Act.put _ (some 33) _ = _
   simp only [Act.put, lA1, lA2, lA3, i64_w, i32_w]
   rfl
  refine pS 23 34 (lA 56 16777215) ?_
  refine pS 24 35 (lA 56 33554431) ?_
  refine pS 25 36 (lA 56 67108863) ?_
  refine pS 28 39 (lA 56 335544319) ?_
  refine tS 26 37 (lA 56 402653183) rfl rfl (by kernel_rfl) hHeld z4 ?_
  refine pS 27 38 (lA 56 536870911) ?_
  refine one_ (i := 29) (N := some 40) (lA 56 1073741823) rfl rfl (by kernel_rfl) (by decide) (fun K hK => ?_)
  refine goes_ Try.func85 (by kernel_rfl) rfl #[.int .i64 o] (by rfl) rfl rfl z5 ?_
  with_reducible refine (impl_cardsOf.calls o cn _ W5.out).mono ?_
  rintro e w3 ⟨rfl, ⟨n1, rfl⟩⟩
  refine ⟨_, rfl, ?_⟩
  refine hK.out _ _ ⟨⟨pw_below_drewN hHeld.1.out _⟩, hHeld.2.1, hHeld.2.2.1, hHeld.2.2.2.1, hHeld.2.2.2.2.1, hHeld.2.2.2.2.2⟩ (fun hHeld => ?_)
  clear hK K
  refine norm_ (a' := ?_) ?_ ?_
  rotate_left
  ·show Act.put _ (some 40) _ = _
   simp only [Act.put, lA1, lA2, lA3, i64_w, i32_w]
   rfl
  refine pS 30 41 (lA 56 2147483647) ?_
  refine pS 31 42 (lA 56 4294967295) ?_
  refine pS 32 43 (lA 56 8589934591) ?_
  refine pS 36 47 (lA 56 77309411327) ?_
  refine pS 39 50 (lA 56 627065225215) ?_
  refine tS 33 44 (lA 56 635655159807) rfl rfl (by kernel_rfl) hHeld z4 ?_
  refine tS 37 48 (lA 56 773094113279) rfl rfl (by kernel_rfl) hHeld z4 ?_
  refine one_ (i := 34) (N := some 45) (lA 56 790273982463) rfl rfl (by kernel_rfl) (by decide) (fun K hK => ?_)
  refine goes_ Try.func87 (by kernel_rfl) rfl #[.agg #[.slice (some ad) l0.length c0, .int .i64 a1, .int .i64 a2, .int .i64 a3, .slice A4 l4.length c4]] (by rfl) rfl rfl z5 ?_
  with_reducible refine (Mem_parts.calls2 ad ad2 l0.length c0 y z zc a1 a2 a3 (.slice A4 l4.length c4) rfl _ P1.out P2.out P3.out P4.out P5.out P6.out).mono ?_
  rintro e w3 ⟨rfl, hb3⟩
  refine ⟨_, rfl, ?_⟩
  refine hK.out _ _ ⟨⟨below_step hHeld.1.out hb3⟩, (pw_cell_below hb3 hHeld.2.1), (pw_cell_below hb3 hHeld.2.2.1), (pw_cell_below hb3 hHeld.2.2.2.1), (pw_cell_below hb3 hHeld.2.2.2.2.1), (pw_cell_below hb3 hHeld.2.2.2.2.2)⟩ (fun hHeld => ?_)
  clear hK K
  refine norm_ (a' := ?_) ?_ ?_
  rotate_left
  ·show Act.put _ (some 45) _ = _
   simp only [Act.put, lA1, lA2, lA3, i64_w, i32_w]
   rfl
  refine tS 35 46 (lA 56 824633720831) rfl rfl (by kernel_rfl) hHeld z4 ?_
  refine pS 38 49 (lA 56 1099511627775) ?_
  refine one_ (i := 40) (N := some 51) (lA 56 2199023255551) rfl rfl (by kernel_rfl) (by decide) (fun K hK => ?_)
  refine goes_ Try.func86 (by kernel_rfl) rfl #[.slice E1 L1.length (c0 - a2.toNat), .func (.func 84) #[] #[]] (by rfl) rfl rfl z5 ?_
  with_reducible refine (impl_every.calls E1 (c0 - a2.toNat) L1 _ (Kd.C_below HE1.out hHeld.1.out) HEl1.out).mono ?_
  rintro e w3 ⟨rfl, hb3⟩
  rw [HV1.out]
  refine ⟨_, rfl, ?_⟩
  refine hK.out _ _ ⟨⟨below_step hHeld.1.out hb3⟩, (pw_cell_below hb3 hHeld.2.1), (pw_cell_below hb3 hHeld.2.2.1), (pw_cell_below hb3 hHeld.2.2.2.1), (pw_cell_below hb3 hHeld.2.2.2.2.1), (pw_cell_below hb3 hHeld.2.2.2.2.2)⟩ (fun hHeld => ?_)
  clear hK K
  refine norm_ (a' := ?_) ?_ ?_
  rotate_left
  ·show Act.put _ (some 51) _ = _
   simp only [Act.put, lA1, lA2, lA3, i64_w, i32_w]
   rfl
  refine pS 41 52 (lA 56 4398046511103) ?_
  refine pS 42 53 (lA 56 8796093022207) ?_
  refine pS 46 57 (lA 56 79164837199871) ?_
  refine pS 48 59 (lA 56 360639813910527) ?_
  refine pS 52 63 (lA 56 4864239441281023) ?_
  refine tS 43 54 (lA 56 4873035534303231) rfl rfl (by kernel_rfl) hHeld z4 ?_
  refine tS 47 58 (lA 56 5013773022658559) rfl rfl (by kernel_rfl) hHeld z4 ?_
  refine tS 49 60 (lA 56 5576722976079871) rfl rfl (by kernel_rfl) hHeld z4 ?_
  refine pS 50 61 (lA 56 6702622882922495) ?_
  refine one_ (i := 44) (N := some 55) (lA 56 6720215068966911) rfl rfl (by kernel_rfl) (by decide) (fun K hK => ?_)
  refine goes_ Try.func87 (by kernel_rfl) rfl #[.agg #[.slice (some ad) l0.length c0, .int .i64 a1, .int .i64 a2, .int .i64 a3, .slice A4 l4.length c4]] (by rfl) rfl rfl z5 ?_
  with_reducible refine (Mem_parts.calls2 ad ad2 l0.length c0 y z zc a1 a2 a3 (.slice A4 l4.length c4) rfl _ P1.out P2.out P3.out P4.out P5.out P6.out).mono ?_
  rintro e w3 ⟨rfl, hb3⟩
  refine ⟨_, rfl, ?_⟩
  refine hK.out _ _ ⟨⟨below_step hHeld.1.out hb3⟩, (pw_cell_below hb3 hHeld.2.1), (pw_cell_below hb3 hHeld.2.2.1), (pw_cell_below hb3 hHeld.2.2.2.1), (pw_cell_below hb3 hHeld.2.2.2.2.1), (pw_cell_below hb3 hHeld.2.2.2.2.2)⟩ (fun hHeld => ?_)
  clear hK K
  refine norm_ (a' := ?_) ?_ ?_
  rotate_left
  ·show Act.put _ (some 55) _ = _
   simp only [Act.put, lA1, lA2, lA3, i64_w, i32_w]
   rfl
  refine tS 45 56 (lA 56 6755399441055743) rfl rfl (by kernel_rfl) hHeld z4 ?_
  refine pS 51 62 (lA 56 9007199254740991) ?_
  refine one_ (i := 53) (N := some 64) (lA 56 18014398509481983) rfl rfl (by kernel_rfl) (by decide) (fun K hK => ?_)
  refine goes_ Try.func86 (by kernel_rfl) rfl #[.slice E2 L2.length (zc - d.toNat), .func (.func 84) #[] #[]] (by rfl) rfl rfl z5 ?_
  with_reducible refine (impl_every.calls E2 (zc - d.toNat) L2 _ (Kd.C_below HE2.out hHeld.1.out) HEl2.out).mono ?_
  rintro e w3 ⟨rfl, hb3⟩
  rw [HV2.out]
  refine ⟨_, rfl, ?_⟩
  refine hK.out _ _ ⟨⟨below_step hHeld.1.out hb3⟩, (pw_cell_below hb3 hHeld.2.1), (pw_cell_below hb3 hHeld.2.2.1), (pw_cell_below hb3 hHeld.2.2.2.1), (pw_cell_below hb3 hHeld.2.2.2.2.1), (pw_cell_below hb3 hHeld.2.2.2.2.2)⟩ (fun hHeld => ?_)
  clear hK K
  refine norm_ (a' := ?_) ?_ ?_
  rotate_left
  ·show Act.put _ (some 64) _ = _
   simp only [Act.put, lA1, lA2, lA3, i64_w, i32_w]
   rfl
  refine pS 54 65 (lA 56 36028797018963967) ?_
  refine pS 55 2 (lA 56 72057594037927935) ?_
  refine done_ (by kernel_rfl) ?_
  go_wp2
  go_ret
  exact ⟨by rw [← HZ.out]; rfl, hHeld.1.out⟩
 | true =>
 have B6 := Aside0.mk h6
 clear h6
 have W1 := Aside0.mk (show impl_within.f 0 a1 40 = some true by rw [impl_within.eq]; exact congrArg some (by have := B0.out; unfold pOk at this; exact this))
 have W2 := Aside0.mk (show impl_within.f 14 o 120 = some true by rw [impl_within.eq]; exact congrArg some z32)
 have W3 := Aside0.mk (show impl_within.f 0 a2 a1 = some true by rw [impl_within.eq]; exact congrArg some (by have := B2.out; unfold pOk at this; exact this))
 have W4 := Aside0.mk (show impl_within.f a1 a3 (l0.length : Int) = some true by rw [impl_within.eq]; exact congrArg some (by have := B3.out; unfold pOk at this; exact this))
 obtain ⟨cn, hcn⟩ : ∃ cn, cn = cardsN o := ⟨_, rfl⟩
 have W5 := Aside0.mk (show impl_cardsOf.f o = some cn by rw [hcn]; rfl)
 have e5 : ((l4.length : Int) == cn) = true := by have := B4.out; unfold pOk at this; rw [hcn, HO.out]; exact this
 clear hcn
 have b0 := B0.out
 have b1 := B1.out
 have b2 := B2.out
 have b3 := B3.out
 unfold pOk at b0 b1 b2 b3
 have b0 := of_decide_eq_true b0
 have b1 := of_decide_eq_true b1
 have b2 := of_decide_eq_true b2
 have b3 := of_decide_eq_true b3
 rw [← HO.out] at b1
 obtain ⟨y, hy⟩ : ∃ y : Nat, a1 = (y : Int) := ⟨a1.toNat, by omega⟩
 have hyl : y ≤ l0.length := by omega
 have hz2 : a2.toNat ≤ y := by omega
 have hy0 : a1.toNat = y := by omega
 obtain ⟨ad, had⟩ : ∃ ad, A0 = some ad := by
  have h0 := HO.out
  have hL := HL.out
  obtain ⟨ad, e, _⟩ := Kd.at_int HR0.out 0 (by omega) (by unfold wrap64 at h0; omega)
  exact ⟨ad, e⟩
 subst had
 have P1 := Aside0.mk hy
 have P2 := Aside0.mk hyl
 have P3 := Aside0.mk HC0.out
 obtain ⟨ad2, h2⟩ : ∃ ad2, (if c0 = y then some ad else some (ad.add y)) = some ad2 := by
  by_cases h : c0 = y
  ·exact ⟨ad, if_pos h⟩
  ·exact ⟨ad.add y, if_neg h⟩
 obtain ⟨z, hz⟩ : ∃ z, l0.length - y = z := ⟨_, rfl⟩
 obtain ⟨zc, hzc⟩ : ∃ zc, c0 - y = zc := ⟨_, rfl⟩
 have P4 := Aside0.mk h2
 have P5 := Aside0.mk hz
 have P6 := Aside0.mk hzc
 obtain ⟨i3, hi3, _, hsz3, _⟩ := info_parts info3
 have IX0 : ∀ W : World, (Instr.index 101 (.agg #[.slice (some ad) y c0, .slice (some ad2) z zc]) (.int .i64 0)).run Try.prog W = .ok (.slice (some ad) y c0) W := fun W => by kernel_rfl
 have IX1 : ∀ W : World, (Instr.index 101 (.agg #[.slice (some ad) y c0, .slice (some ad2) z zc]) (.int .i64 1)).run Try.prog W = .ok (.slice (some ad2) z zc) W := fun W => by kernel_rfl
 obtain ⟨E1, hE1⟩ : ∃ E1 : Option Addr, E1 = if c0 = a2.toNat then some ad else (some ad).map (·.add (a2.toNat * 1)) := ⟨_, rfl⟩
 obtain ⟨L1, hL1⟩ : ∃ L1, L1 = (l0.take y).drop a2.toNat := ⟨_, rfl⟩
 have n1 : L1.length = y - a2.toNat := by rw [hL1, List.length_drop, List.length_take, Nat.min_eq_left hyl]
 have SL1 := cut_from (P := Try.prog) 24 3 .i64 Try.underlying24 hi3 1 hsz3 (some ad) y c0 a2 (by omega) (by omega)
 rw [← hE1, ← n1] at SL1
 have HE1 := Aside0.mk (show Kd.C (Kd.int .i64) w E1 L1.length L1 by
  have hT := Kd.C_take HR0.out hyl
  have hD := Kd.C_drop (c := c0) hT (m := a2.toNat) (by rw [List.length_take]; omega) (by rw [List.length_take]; have := HC0.out; omega)
  rw [← hL1] at hD
  rw [hE1]
  exact hD)
 have HEl1 := Aside0.mk (show L1.length ≤ 281474976710656 by have := HL.out; rw [n1]; omega)
 have HV1 := Aside0.mk (show L1.all (· == 0) = true by have := B5.out; unfold pOk at this; rw [hy0, ← hL1] at this; exact this)
 obtain ⟨d, hd⟩ : ∃ d, d = a3 - a1 := ⟨_, rfl⟩
 have q2 : IntKind.i64.wrap (a3 - a1) = d := by rw [hd]; exact IntWalk.i64_in _ ⟨by have := HL.out; omega, by have := HL.out; omega⟩
 obtain ⟨E2, hE2⟩ : ∃ E2 : Option Addr, E2 = if zc = d.toNat then some ad2 else (some ad2).map (·.add (d.toNat * 1)) := ⟨_, rfl⟩
 obtain ⟨L2, hL2⟩ : ∃ L2, L2 = (l0.drop y).drop d.toNat := ⟨_, rfl⟩
 have n2 : L2.length = z - d.toNat := by rw [hL2, List.length_drop, List.length_drop, hz]
 have SL2 := cut_from (P := Try.prog) 24 3 .i64 Try.underlying24 hi3 1 hsz3 (some ad2) z zc d (by omega) (by omega)
 rw [← hE2, ← n2] at SL2
 have HE2 := Aside0.mk (show Kd.C (Kd.int .i64) w E2 L2.length L2 by
  have hT := Kd.C_drop (c := c0) HR0.out hyl HC0.out
  have e2 : (if c0 = y then some ad else (some ad).map (·.add (y * (Kd.int .i64).sz))) = some ad2 := by rw [← h2]; show (if c0 = y then some ad else some (ad.add (y * 1))) = _; rw [Nat.mul_one]
  rw [e2] at hT
  have hD := Kd.C_drop (c := zc) hT (m := d.toNat) (by rw [List.length_drop]; omega) (by rw [List.length_drop]; have := HC0.out; omega)
  rw [← hL2] at hD
  rw [hE2]
  exact hD)
 have HEl2 := Aside0.mk (show L2.length ≤ 281474976710656 by have := HL.out; rw [n2]; omega)
 have HV2 := Aside0.mk (show L2.all (· == 0) = true by have := B6.out; unfold pOk at this; rw [hy0, ← hd, ← hL2] at this; exact this)
 have HZ := Aside0.mk (show true = r by rw [← HR.out, B0.out, B1.out, B2.out, B3.out, B4.out, B5.out, B6.out]; rfl)
 clear hy hy0 hyl hz2 b0 b1 b2 b3 hL1 hE1 n1 h2 hz hzc hi3 hsz3 hd hL2 hE2 n2
 go_enter Try.func56, Try.ntmps56
 go_wp2
 refine start_ (n := 56) (S := fun w' => Aside0 (Below w.heap.size w w') ∧ w'.cell? ⟨w.heap.size, 0, none⟩ = some (.slice (some ad) l0.length c0) ∧ w'.cell? ⟨w.heap.size, 1, none⟩ = some (.int .i64 a1) ∧ w'.cell? ⟨w.heap.size, 2, none⟩ = some (.int .i64 a2) ∧ w'.cell? ⟨w.heap.size, 3, none⟩ = some (.int .i64 a3) ∧ w'.cell? ⟨w.heap.size, 4, none⟩ = some (.slice A4 l4.length c4)) (ds := []) #[false, false, false, false, false, false, false, false, false, false, false, false, false, false, false, false, false, false, false, false, false, false, false, false, false, false, false, false, false, false, false, false, false, false, false, false, false, false, false, false, false, false, false, false, false, false, false, false, false, false, false, false, false, false, false, false] (by kernel_rfl) rfl rfl ⟨⟨below_drew1 HB.out⟩, (by go_simp), (by go_simp), (by go_simp), (by go_simp), (by go_simp)⟩ (fun hHeld => ?_)
 refine pS 0 11 (lA 56 1) ?_
 refine tS 1 12 (lA 56 3) rfl rfl (by kernel_rfl) hHeld z4 ?_
 refine one_ (i := 2) (N := some 13) (lA 56 7) rfl rfl (by kernel_rfl) (by decide) (fun K hK => ?_)
 refine goes_ Try.func79 (by kernel_rfl) rfl #[.int .i64 0, .int .i64 a1, .int .i64 40] (by rfl) rfl rfl z5 ?_
 with_reducible refine (impl_within.calls 0 a1 40 true _ W1.out).mono ?_
 rintro e w3 ⟨rfl, ⟨n1, rfl⟩⟩
 refine ⟨_, rfl, ?_⟩
 refine hK.out _ _ ⟨⟨pw_below_drewN hHeld.1.out _⟩, hHeld.2.1, hHeld.2.2.1, hHeld.2.2.2.1, hHeld.2.2.2.2.1, hHeld.2.2.2.2.2⟩ (fun hHeld => ?_)
 clear hK K
 refine norm_ (a' := ?_) ?_ ?_
 rotate_left
 ·show Act.put _ (some 13) _ = _
  simp only [Act.put, lA1, lA2, lA3, i64_w, i32_w]
  rfl
 refine pS 3 14 (lA 56 15) ?_
 refine pS 4 15 (lA 56 31) ?_
 refine one_ (i := 5) (N := some 16) (lA 56 63) rfl rfl (by kernel_rfl) (by decide) (fun K hK => ?_)
 refine goes_ Try.func79 (by kernel_rfl) rfl #[.int .i64 14, .int .i64 o, .int .i64 120] (by rfl) rfl rfl z5 ?_
 with_reducible refine (impl_within.calls 14 o 120 true _ W2.out).mono ?_
 rintro e w3 ⟨rfl, ⟨n1, rfl⟩⟩
 refine ⟨_, rfl, ?_⟩
 refine hK.out _ _ ⟨⟨pw_below_drewN hHeld.1.out _⟩, hHeld.2.1, hHeld.2.2.1, hHeld.2.2.2.1, hHeld.2.2.2.2.1, hHeld.2.2.2.2.2⟩ (fun hHeld => ?_)
 clear hK K
 refine norm_ (a' := ?_) ?_ ?_
 rotate_left
 ·show Act.put _ (some 16) _ = _
  simp only [Act.put, lA1, lA2, lA3, i64_w, i32_w]
  rfl
 refine pS 6 17 (lA 56 127) ?_
 refine pS 7 18 (lA 56 255) ?_
 refine pS 8 19 (lA 56 511) ?_
 refine pS 10 21 (lA 56 1535) ?_
 refine tS 9 20 (lA 56 2047) rfl rfl (by kernel_rfl) hHeld z4 ?_
 refine tS 11 22 (lA 56 4095) rfl rfl (by kernel_rfl) hHeld z4 ?_
 refine one_ (i := 12) (N := some 23) (lA 56 8191) rfl rfl (by kernel_rfl) (by decide) (fun K hK => ?_)
 refine goes_ Try.func79 (by kernel_rfl) rfl #[.int .i64 0, .int .i64 a2, .int .i64 a1] (by rfl) rfl rfl z5 ?_
 with_reducible refine (impl_within.calls 0 a2 a1 true _ W3.out).mono ?_
 rintro e w3 ⟨rfl, ⟨n1, rfl⟩⟩
 refine ⟨_, rfl, ?_⟩
 refine hK.out _ _ ⟨⟨pw_below_drewN hHeld.1.out _⟩, hHeld.2.1, hHeld.2.2.1, hHeld.2.2.2.1, hHeld.2.2.2.2.1, hHeld.2.2.2.2.2⟩ (fun hHeld => ?_)
 clear hK K
 refine norm_ (a' := ?_) ?_ ?_
 rotate_left
 ·show Act.put _ (some 23) _ = _
  simp only [Act.put, lA1, lA2, lA3, i64_w, i32_w]
  rfl
 refine pS 13 24 (lA 56 16383) ?_
 refine pS 14 25 (lA 56 32767) ?_
 refine pS 15 26 (lA 56 65535) ?_
 refine pS 17 28 (lA 56 196607) ?_
 refine pS 19 30 (lA 56 720895) ?_
 refine tS 16 27 (lA 56 786431) rfl rfl (by kernel_rfl) hHeld z4 ?_
 refine tS 18 29 (lA 56 1048575) rfl rfl (by kernel_rfl) hHeld z4 ?_
 refine tS 20 31 (lA 56 2097151) rfl rfl (by kernel_rfl) hHeld z4 ?_
 refine pS 21 32 (lA 56 4194303) ?_
 refine one_ (i := 22) (N := some 33) (lA 56 8388607) rfl rfl (by kernel_rfl) (by decide) (fun K hK => ?_)
 refine goes_ Try.func79 (by kernel_rfl) rfl #[.int .i64 a1, .int .i64 a3, .int .i64 (l0.length : Int)] (by rfl) rfl rfl z5 ?_
 with_reducible refine (impl_within.calls a1 a3 (l0.length : Int) true _ W4.out).mono ?_
 rintro e w3 ⟨rfl, ⟨n1, rfl⟩⟩
 refine ⟨_, rfl, ?_⟩
 refine hK.out _ _ ⟨⟨pw_below_drewN hHeld.1.out _⟩, hHeld.2.1, hHeld.2.2.1, hHeld.2.2.2.1, hHeld.2.2.2.2.1, hHeld.2.2.2.2.2⟩ (fun hHeld => ?_)
 clear hK K
 refine norm_ (a' := ?_) ?_ ?_
 rotate_left
 ·show Act.put _ (some 33) _ = _
  simp only [Act.put, lA1, lA2, lA3, i64_w, i32_w]
  rfl
 refine pS 23 34 (lA 56 16777215) ?_
 refine pS 24 35 (lA 56 33554431) ?_
 refine pS 25 36 (lA 56 67108863) ?_
 refine pS 28 39 (lA 56 335544319) ?_
 refine tS 26 37 (lA 56 402653183) rfl rfl (by kernel_rfl) hHeld z4 ?_
 refine pS 27 38 (lA 56 536870911) ?_
 refine one_ (i := 29) (N := some 40) (lA 56 1073741823) rfl rfl (by kernel_rfl) (by decide) (fun K hK => ?_)
 refine goes_ Try.func85 (by kernel_rfl) rfl #[.int .i64 o] (by rfl) rfl rfl z5 ?_
 with_reducible refine (impl_cardsOf.calls o cn _ W5.out).mono ?_
 rintro e w3 ⟨rfl, ⟨n1, rfl⟩⟩
 refine ⟨_, rfl, ?_⟩
 refine hK.out _ _ ⟨⟨pw_below_drewN hHeld.1.out _⟩, hHeld.2.1, hHeld.2.2.1, hHeld.2.2.2.1, hHeld.2.2.2.2.1, hHeld.2.2.2.2.2⟩ (fun hHeld => ?_)
 clear hK K
 refine norm_ (a' := ?_) ?_ ?_
 rotate_left
 ·show Act.put _ (some 40) _ = _
  simp only [Act.put, lA1, lA2, lA3, i64_w, i32_w]
  rfl
 refine pS 30 41 (lA 56 2147483647) ?_
 refine pS 31 42 (lA 56 4294967295) ?_
 refine pS 32 43 (lA 56 8589934591) ?_
 refine pS 36 47 (lA 56 77309411327) ?_
 refine pS 39 50 (lA 56 627065225215) ?_
 refine tS 33 44 (lA 56 635655159807) rfl rfl (by kernel_rfl) hHeld z4 ?_
 refine tS 37 48 (lA 56 773094113279) rfl rfl (by kernel_rfl) hHeld z4 ?_
 refine one_ (i := 34) (N := some 45) (lA 56 790273982463) rfl rfl (by kernel_rfl) (by decide) (fun K hK => ?_)
 refine goes_ Try.func87 (by kernel_rfl) rfl #[.agg #[.slice (some ad) l0.length c0, .int .i64 a1, .int .i64 a2, .int .i64 a3, .slice A4 l4.length c4]] (by rfl) rfl rfl z5 ?_
 with_reducible refine (Mem_parts.calls2 ad ad2 l0.length c0 y z zc a1 a2 a3 (.slice A4 l4.length c4) rfl _ P1.out P2.out P3.out P4.out P5.out P6.out).mono ?_
 rintro e w3 ⟨rfl, hb3⟩
 refine ⟨_, rfl, ?_⟩
 refine hK.out _ _ ⟨⟨below_step hHeld.1.out hb3⟩, (pw_cell_below hb3 hHeld.2.1), (pw_cell_below hb3 hHeld.2.2.1), (pw_cell_below hb3 hHeld.2.2.2.1), (pw_cell_below hb3 hHeld.2.2.2.2.1), (pw_cell_below hb3 hHeld.2.2.2.2.2)⟩ (fun hHeld => ?_)
 clear hK K
 refine norm_ (a' := ?_) ?_ ?_
 rotate_left
 ·show Act.put _ (some 45) _ = _
  simp only [Act.put, lA1, lA2, lA3, i64_w, i32_w]
  rfl
 refine tS 35 46 (lA 56 824633720831) rfl rfl (by kernel_rfl) hHeld z4 ?_
 refine pS 38 49 (lA 56 1099511627775) ?_
 refine one_ (i := 40) (N := some 51) (lA 56 2199023255551) rfl rfl (by kernel_rfl) (by decide) (fun K hK => ?_)
 refine goes_ Try.func86 (by kernel_rfl) rfl #[.slice E1 L1.length (c0 - a2.toNat), .func (.func 84) #[] #[]] (by rfl) rfl rfl z5 ?_
 with_reducible refine (impl_every.calls E1 (c0 - a2.toNat) L1 _ (Kd.C_below HE1.out hHeld.1.out) HEl1.out).mono ?_
 rintro e w3 ⟨rfl, hb3⟩
 rw [HV1.out]
 refine ⟨_, rfl, ?_⟩
 refine hK.out _ _ ⟨⟨below_step hHeld.1.out hb3⟩, (pw_cell_below hb3 hHeld.2.1), (pw_cell_below hb3 hHeld.2.2.1), (pw_cell_below hb3 hHeld.2.2.2.1), (pw_cell_below hb3 hHeld.2.2.2.2.1), (pw_cell_below hb3 hHeld.2.2.2.2.2)⟩ (fun hHeld => ?_)
 clear hK K
 refine norm_ (a' := ?_) ?_ ?_
 rotate_left
 ·show Act.put _ (some 51) _ = _
  simp only [Act.put, lA1, lA2, lA3, i64_w, i32_w]
  rfl
 refine pS 41 52 (lA 56 4398046511103) ?_
 refine pS 42 53 (lA 56 8796093022207) ?_
 refine pS 46 57 (lA 56 79164837199871) ?_
 refine pS 48 59 (lA 56 360639813910527) ?_
 refine pS 52 63 (lA 56 4864239441281023) ?_
 refine tS 43 54 (lA 56 4873035534303231) rfl rfl (by kernel_rfl) hHeld z4 ?_
 refine tS 47 58 (lA 56 5013773022658559) rfl rfl (by kernel_rfl) hHeld z4 ?_
 refine tS 49 60 (lA 56 5576722976079871) rfl rfl (by kernel_rfl) hHeld z4 ?_
 refine pS 50 61 (lA 56 6702622882922495) ?_
 refine one_ (i := 44) (N := some 55) (lA 56 6720215068966911) rfl rfl (by kernel_rfl) (by decide) (fun K hK => ?_)
 refine goes_ Try.func87 (by kernel_rfl) rfl #[.agg #[.slice (some ad) l0.length c0, .int .i64 a1, .int .i64 a2, .int .i64 a3, .slice A4 l4.length c4]] (by rfl) rfl rfl z5 ?_
 with_reducible refine (Mem_parts.calls2 ad ad2 l0.length c0 y z zc a1 a2 a3 (.slice A4 l4.length c4) rfl _ P1.out P2.out P3.out P4.out P5.out P6.out).mono ?_
 rintro e w3 ⟨rfl, hb3⟩
 refine ⟨_, rfl, ?_⟩
 refine hK.out _ _ ⟨⟨below_step hHeld.1.out hb3⟩, (pw_cell_below hb3 hHeld.2.1), (pw_cell_below hb3 hHeld.2.2.1), (pw_cell_below hb3 hHeld.2.2.2.1), (pw_cell_below hb3 hHeld.2.2.2.2.1), (pw_cell_below hb3 hHeld.2.2.2.2.2)⟩ (fun hHeld => ?_)
 clear hK K
 refine norm_ (a' := ?_) ?_ ?_
 rotate_left
 ·show Act.put _ (some 55) _ = _
  simp only [Act.put, lA1, lA2, lA3, i64_w, i32_w]
  rfl
 refine tS 45 56 (lA 56 6755399441055743) rfl rfl (by kernel_rfl) hHeld z4 ?_
 refine pS 51 62 (lA 56 9007199254740991) ?_
 refine one_ (i := 53) (N := some 64) (lA 56 18014398509481983) rfl rfl (by kernel_rfl) (by decide) (fun K hK => ?_)
 refine goes_ Try.func86 (by kernel_rfl) rfl #[.slice E2 L2.length (zc - d.toNat), .func (.func 84) #[] #[]] (by rfl) rfl rfl z5 ?_
 with_reducible refine (impl_every.calls E2 (zc - d.toNat) L2 _ (Kd.C_below HE2.out hHeld.1.out) HEl2.out).mono ?_
 rintro e w3 ⟨rfl, hb3⟩
 rw [HV2.out]
 refine ⟨_, rfl, ?_⟩
 refine hK.out _ _ ⟨⟨below_step hHeld.1.out hb3⟩, (pw_cell_below hb3 hHeld.2.1), (pw_cell_below hb3 hHeld.2.2.1), (pw_cell_below hb3 hHeld.2.2.2.1), (pw_cell_below hb3 hHeld.2.2.2.2.1), (pw_cell_below hb3 hHeld.2.2.2.2.2)⟩ (fun hHeld => ?_)
 clear hK K
 refine norm_ (a' := ?_) ?_ ?_
 rotate_left
 ·show Act.put _ (some 64) _ = _
  simp only [Act.put, lA1, lA2, lA3, i64_w, i32_w]
  rfl
 refine pS 54 65 (lA 56 36028797018963967) ?_
 refine pS 55 2 (lA 56 72057594037927935) ?_
 refine done_ (by kernel_rfl) ?_
 go_wp2
 go_ret
 exact ⟨by rw [← HZ.out]; rfl, hHeld.1.out⟩
end Go.Proofs.Ytfbkpjjnhengfaa.K
namespace Go.Proofs.Ytfbkpjjnhengfaa.K
open Go.RowKit Go.Proofs.YtfbkpjjnhengfaaW.PrintWords Go.Proofs.YtfbkpjjnhengfaaW.PrintLast Go.Proofs.YtfbkpjjnhengfaaW.PrintMore
attribute [local go_sem] max2_int min2_int max_two min_two max_three min_three max_four min_four
set_option linter.unusedVariables false
set_option linter.unusedSimpArgs false
def slices_CloneB.f (l0 : List Bool) : Option (List Bool) := if l0.length ≤ 17592186044416 then some l0 else none
theorem cloneB_nil (n c : Nat) (W : World) : (binOp .eql 25 (.slice none n c) (.slice none 0 0)).run Try.prog W = .ok (.bool true) W := by kernel_rfl
theorem cloneB_some (ad : Addr) (n c : Nat) (W : World) : (binOp .eql 25 (.slice (some ad) n c) (.slice none 0 0)).run Try.prog W = .ok (.bool false) W := by kernel_rfl
set_option maxHeartbeats 4000000 in
set_option maxRecDepth 100000 in
theorem slices_CloneB.calls (A0 : Option Addr) (c0 : Nat) (l0 r : List Bool) (w : World) (hr0 : Kd.C (Kd.bool) w A0 l0.length l0) (hc0 : l0.length ≤ c0) (h : slices_CloneB.f l0 = some r) :
  Calls Try.prog 89 #[.slice A0 l0.length c0] w fun e w' => ∃ v, e = .returned v ∧ Kd.R (Kd.bool) 4 w' w.heap.size (fun _ => True) v r ∧ Below w.heap.size w w' := by
 unfold slices_CloneB.f at h
 split at h
 case isFalse => simp at h
 case isTrue hl =>
 obtain rfl := Option.some.inj h
 have HR0 := Aside0.mk hr0
 have HC0 := Aside0.mk hc0
 have HL := Aside0.mk hl
 clear h hl hc0
 cases A0 with
 | none =>
  have hz : l0 = [] := by
   cases l0 with
   | nil => rfl
   | cons x xs => obtain ⟨ad, _, e, _⟩ := Kd.C_get hr0 x 0 (by omega) (by simp); cases e
  subst hz
  clear hr0
  have N1 := cloneB_nil
  have N2 := cloneB_some
  go_enter Try.func89, Try.ntmps89
  go_wp2
  go_ret
  exact ⟨_, rfl, Kd.R_nil _ _ _ _ _, by repeat (first | exact Below.refl _ _ | apply below_alloc | apply pw_below_drewN | apply below_drew1)⟩
 | some ad =>
  clear hr0
  have N1 := cloneB_nil
  have N2 := cloneB_some
  go_enter Try.func89, Try.ntmps89
  go_wp2_with (first
   | ((with_reducible refine gate_dst (N := 5) rfl ?_); refine Kd.R_lit (Kd.bool) _ 4 ?hg (N := 5) ?hd (xs := ([] : List Bool)) (inner := []) (ok := fun _ => True) (okp := fun _ => True) ?hr ?hp (fun _ hk => hk) trivial (Below.refl _ _) (Nat.le_refl _) (by simp) ?_; (case hd => rfl); (case hg => rfl); (case hr => first | (go_simp; done) | (go_simp; rfl)); (case hp => exact (Reps.none _ _)); intro v5 w5 ho5 hb5 hg5 hn5; have HO5 := Aside0.mk ho5; have HB5 := Aside0.mk hb5; clear ho5 hb5 hg5 hn5)
   | ((with_reducible refine gate_builtin (b := .append) (xs := #[.tmp 5, .tmp 6]) rfl ?_); at_builtin; refine Kd.R_append_rows (Kd.bool) (w0 := w) w.heap.size rfl (.tmp 5) (.tmp 6) 25 4 (.bool false) 1 rfl Try.underlying25 info4 rfl (by decide) (by omega) v5 [] l0 _ _ _ (fun _ => True) (fun _ => False) rfl rfl ?aO ?aR (fun _ _ h => h) (fun _ h => h.elim) (fun _ _ => trivial) ?aB ?aS ?aL ?_; (case aR => exact Kd.C_below HR0.out HB5.out); (case aB => exact HB5.out); (case aO => exact HO5.out); (case aS => exact below_size HB5.out); (case aL => have := HL.out; simp; omega); intro v7 w7 ho7 hb7 hg7 hn7; have HO7 := Aside0.mk ho7; have HB7 := Aside0.mk hb7; clear ho7 hb7 hg7 hn7))
  go_ret
  exact ⟨_, rfl, HO7.out, HB7.out⟩
end Go.Proofs.Ytfbkpjjnhengfaa.K
namespace Go.Proofs.Ytfbkpjjnhengfaa.K
open Go.RowKit Go.Proofs.YtfbkpjjnhengfaaW.PrintWords Go.Proofs.YtfbkpjjnhengfaaW.PrintLast Go.Proofs.YtfbkpjjnhengfaaW.PrintMore
attribute [local go_sem] max2_int min2_int max_two min_two max_three min_three max_four min_four
set_option linter.unusedVariables false
set_option linter.unusedSimpArgs false
set_option maxHeartbeats 4000000 in
set_option maxRecDepth 100000 in
theorem impl_memClone.calls (A0 : Option Addr) (c0 : Nat) (l0 : List Int) (a1 a2 a3 : Int) (A4 : Option Addr) (c4 : Nat) (l4 : List Bool) (w : World) (hr0 : Kd.C (Kd.int .i64) w A0 l0.length l0) (hc0 : l0.length ≤ c0) (hr4 : Kd.C Kd.bool w A4 l4.length l4) (hc4 : l4.length ≤ c4) (h0 : l0.length ≤ 17592186044416) (h4 : l4.length ≤ 17592186044416) :
  Calls Try.prog 57 #[.agg #[.slice A0 l0.length c0, .int .i64 a1, .int .i64 a2, .int .i64 a3, .slice A4 l4.length c4]] w fun e w' => ∃ u v, e = .returned (.agg #[u, .int .i64 a1, .int .i64 a2, .int .i64 a3, v]) ∧ Kd.R (Kd.int .i64) 3 w' w.heap.size (fun k => some k ≠ v.ownBlock) u l0 ∧ Kd.R Kd.bool 4 w' w.heap.size (fun k => some k ≠ u.ownBlock) v l4 ∧ Below w.heap.size w w' := by
 have HR0 := Aside0.mk hr0
 have HC0 := Aside0.mk hc0
 have HR4 := Aside0.mk hr4
 have HC4 := Aside0.mk hc4
 have HL0 := Aside0.mk h0
 have HL4 := Aside0.mk h4
 clear hr0 hc0 hr4 hc4 h0 h4
 go_enter Try.func57, Try.ntmps57
 go_wp2_with fail
 go_at_call 88
 have HB1 := Aside0.mk (show Below w.heap.size w ((w.alloc (.cells #[.slice A0 l0.length c0, .int .i64 a1, .int .i64 a2, .int .i64 a3, .slice A4 l4.length c4] 27 (0, 0))).alloc (.cells #[.slice none 0 0, .int .i64 0, .int .i64 0, .int .i64 0, .slice none 0 0] 27 (0, 0))) by repeat (first | exact Below.refl _ _ | apply below_alloc))
 refine (slices_CloneI.calls A0 c0 l0 l0 _ (Kd.C_below HR0.out HB1.out) HC0.out (by unfold slices_CloneI.f; rw [if_pos HL0.out])).mono ?_
 rintro e w2 ⟨u, rfl, hu, hb⟩
 have HB2 := Aside0.mk (below_step HB1.out hb)
 have X1 := Aside0.mk ((hb.block w.heap.size (by simp; omega)).trans (heap_pair w _ _).1)
 have X2 := Aside0.mk ((hb.block (w.heap.size + 1) (by simp)).trans (heap_pair w _ _).2)
 have HU := Aside0.mk (show Kd.R (Kd.int .i64) 3 w2 (w.heap.size + 2) (fun _ => True) u l0 by simpa using hu)
 have hS2 : w.heap.size + 2 ≤ w2.heap.size := by have := below_size hb; simpa using this
 obtain ⟨AU, cU, rfl⟩ := Kd.R_slice hu
 clear hu hb HB1
 have c0' := (blk_cell X1.out 0).trans rfl
 have f0' := blk_frozen X1.out 0
 have c4' := (blk_cell X1.out 4).trans rfl
 go_wp2_with fail
 go_at_call 89
 have HB3 := Aside0.mk (show Below w.heap.size w (w2.setCell ⟨w.heap.size, 0, none⟩ (.slice AU l0.length cU)) from below_set HB2.out (Nat.le_refl _))
 have Y1 := Aside0.mk (blk_put X1.out 0 (.slice AU l0.length cU) rfl)
 have Y2 := Aside0.mk (blk_far X2.out (show w.heap.size + 1 ≠ w.heap.size by omega) (p := ⟨w.heap.size, 0, none⟩) (.slice AU l0.length cU))
 clear c0' f0' c4' X1 X2
 generalize hW3 : w2.setCell ⟨w.heap.size, 0, none⟩ (.slice AU l0.length cU) = W3 at HB3 Y1 Y2 ⊢
 refine (slices_CloneB.calls A4 c4 l4 l4 _ (Kd.C_below HR4.out HB3.out) HC4.out (by unfold slices_CloneB.f; rw [if_pos HL4.out])).mono ?_
 rintro e w4 ⟨v, rfl, hv, hb⟩
 have HB4 := Aside0.mk (below_step HB3.out hb)
 have Z1 := Aside0.mk ((hb.block _ (blk_lt Y1.out)).trans Y1.out)
 have Z2 := Aside0.mk ((hb.block _ (blk_lt Y2.out)).trans Y2.out)
 have HV := Aside0.mk hv
 obtain ⟨AV, cV, rfl⟩ := Kd.R_slice hv
 have Z3 : w4.heap[w.heap.size]? = some (.cells #[.slice AU l0.length cU, .int .i64 a1, .int .i64 a2, .int .i64 a3, .slice A4 l4.length c4] 27 (0, 0)) := Z1.out
 have Z4 := Z2.out
 have c0' := (blk_cell Z3 0).trans rfl
 have f0' := blk_frozen Z3 0
 have d0' := (blk_cell Z4 0).trans rfl
 have e0' := blk_frozen Z4 0
 have c1' := (blk_cell Z3 1).trans rfl
 have f1' := blk_frozen Z3 1
 have d1' := (blk_cell Z4 1).trans rfl
 have e1' := blk_frozen Z4 1
 have c2' := (blk_cell Z3 2).trans rfl
 have f2' := blk_frozen Z3 2
 have d2' := (blk_cell Z4 2).trans rfl
 have e2' := blk_frozen Z4 2
 have c3' := (blk_cell Z3 3).trans rfl
 have f3' := blk_frozen Z3 3
 have d3' := (blk_cell Z4 3).trans rfl
 have e3' := blk_frozen Z4 3
 have c4' := (blk_cell Z3 4).trans rfl
 have f4' := blk_frozen Z3 4
 have d4' := (blk_cell Z4 4).trans rfl
 have e4' := blk_frozen Z4 4
 have Z5 := Aside0.mk Z4
 have HS3 := Aside0.mk (show W3.heap.size = w2.heap.size by rw [← hW3]; simp)
 have HS2 := Aside0.mk (show w.heap.size + 2 ≤ w2.heap.size from hS2)
 have K3 := Aside0.mk (show ∀ k, k ≠ w.heap.size → W3.heap[k]? = w2.heap[k]? from fun k hk => by rw [← hW3]; exact Below.heap_setCell w2 ⟨w.heap.size, 0, none⟩ _ k hk)
 have HBb := Aside0.mk hb
 clear hv hb Z1 Z3 Z4 Y1 Y2 HB3 hW3 Z2
 go_wp2
 refine bodyPost_ret (results_cell_row rfl _ _ (w.heap.size + 1) 27 #[.slice AU l0.length cU, .int .i64 a1, .int .i64 a2, .int .i64 a3, .slice AV l4.length cV] (0, 0) _ rfl (blk_put (blk_put (blk_put (blk_put (blk_put (blk_far Z5.out (show w.heap.size + 1 ≠ w.heap.size by omega) (p := ⟨w.heap.size, 4, none⟩) _) 0 _ rfl) 1 _ rfl) 2 _ rfl) 3 _ rfl) 4 _ rfl) Try.underlying27 rfl (by kernel_rfl)) rfl ?_
 have KF : ∀ k, k ≠ w.heap.size → k ≠ w.heap.size + 1 → ((((((w4.setCell ⟨w.heap.size, 4, none⟩ (.slice AV l4.length cV)).setCell ⟨w.heap.size + 1, 0, none⟩ (.slice AU l0.length cU)).setCell ⟨w.heap.size + 1, 1, none⟩ (.int .i64 a1)).setCell ⟨w.heap.size + 1, 2, none⟩ (.int .i64 a2)).setCell ⟨w.heap.size + 1, 3, none⟩ (.int .i64 a3)).setCell ⟨w.heap.size + 1, 4, none⟩ (.slice AV l4.length cV)).heap[k]? = w4.heap[k]? := by
  intro k h1 h2
  rw [Below.heap_setCell _ _ _ k h2, Below.heap_setCell _ _ _ k h2, Below.heap_setCell _ _ _ k h2, Below.heap_setCell _ _ _ k h2, Below.heap_setCell _ _ _ k h2, Below.heap_setCell _ _ _ k h1]
 have s3 := HS3.out
 have s2 := HS2.out
 refine ⟨_, _, rfl, ?_, ?_, ?_⟩
 ·refine Kd.R_lower (Kd.R_mono (Kd.R_step (Kd.R_bound HU.out) (fun k hk hlt => ?_)) (fun k hk he => ?_)) (by omega)
  ·obtain ⟨_, h1, h2, _⟩ := hk
   exact (KF k (by omega) (by omega)).trans ((HBb.out.block k (by omega)).trans (K3.out k (by omega)))
  ·have h1 := Kd.R_base HV.out k he.symm
   have h2 := hk.2.2.1
   omega
 ·refine Kd.R_lower (Kd.R_mono (Kd.R_step (Kd.R_bound HV.out) (fun k hk hlt => ?_)) (fun k hk he => ?_)) (by omega)
  ·obtain ⟨_, h1, h2, _⟩ := hk
   exact KF k (by omega) (by omega)
  ·have h1 := Kd.R_lt HU.out k he.symm
   have h2 := hk.2.1
   omega
 ·repeat (refine below_set ?_ (by simp))
  exact HB4.out
end Go.Proofs.Ytfbkpjjnhengfaa.K
namespace Go.Proofs.Ytfbkpjjnhengfaa.K
open Go.RowKit Go.Proofs.YtfbkpjjnhengfaaW.PrintWords Go.Proofs.YtfbkpjjnhengfaaW.PrintLast Go.Proofs.YtfbkpjjnhengfaaW.PrintMore
attribute [local go_sem] max2_int min2_int max_two min_two max_three min_three max_four min_four
set_option linter.unusedVariables false
set_option linter.unusedSimpArgs false
def impl_classFields.f : Nat → List (S99) → Int → Option (List Int)
  | 0, _, _ => none
  | k + 1, l0, a1 => if a1 = 0 then (some ([] : List Int)) else (if 0 ≤ a1 then (if a1 < (l0.length : Int) then ((impl_classFields.f k l0 ((rd_T99 l0 a1).f0)).bind fun t241 => (if t241.length + ((rd_T99 l0 a1).f1).length < 17592186044416 then (some (t241 ++ ((rd_T99 l0 a1).f1))) else (none))) else (none)) else (none))
def impl_classFields.T3 : Bool × List (List Nat × List Nat) := (true, [([], []), ([], []), ([], []), ([1, 2], [1, 2]), ([3], [3]), ([4], [4]), ([0, 5], [0, 5]), ([], []), ([], []), ([7, 8], [7, 8]), ([9], [9]), ([10], [10]), ([6, 11, 6], [6, 11]), ([12, 12, 0, 1, 2, 3, 4, 5, 6, 7, 8, 9, 10, 11, 12], [12])])
def impl_classFields.B3 : List Nat := [0, 0, 0, 6, 14, 30, 63, 0, 0, 384, 896, 1920, 4095, 8191]
theorem impl_classFields.tab3 : rtab .any (opsOf Try.f90 3) = impl_classFields.T3 := by kernel_rfl
theorem impl_classFields.bits3 : waitsOk impl_classFields.T3.2 impl_classFields.B3 = true := by kernel_rfl
set_option maxHeartbeats 8000000 in
set_option maxRecDepth 100000 in
theorem impl_classFields.calls (k : Nat) : ∀ (A0 : Option Addr) (c0 : Nat) (l0 : List (S99)) (a1 : Int) (r : List Int) (w : World) (hr0 : Kd.C k99 w A0 l0.length l0) (hc0 : l0.length ≤ c0) (h : impl_classFields.f k l0 a1 = some r),
  Calls Try.prog 90 #[.slice A0 l0.length c0, .int .i64 a1] w fun e w' => ∃ v0_ : Value, e = .returned (v0_) ∧ Kd.R (Kd.int .i64) 3 w' w.heap.size (fun _ => True) v0_ r ∧ Below w.heap.size w w' := by
 induction k using Nat.strongRecOn with
 | _ k ih =>
 intro A0 c0 l0 a1 r w hr0 hc0 h
 cases k with
 | zero => exact absurd h (by simp [impl_classFields.f])
 | succ k =>
 simp only [impl_classFields.f] at h
 have HR0 := Aside0.mk hr0
 have HC0 := Aside0.mk hc0
 clear hr0 hc0
 have HB := Aside0.mk (Below.refl w.heap.size w)
 have H : (if a1 = 0 then (some ([] : List Int)) else (if 0 ≤ a1 then (if a1 < (l0.length : Int) then ((impl_classFields.f k l0 ((rd_T99 l0 a1).f0)).bind fun t241 => (if t241.length + ((rd_T99 l0 a1).f1).length < 17592186044416 then (some (t241 ++ ((rd_T99 l0 a1).f1))) else (none))) else (none)) else (none))) = some r := h
 clear h
 by_cases c3 : a1 = 0
 ·rw [if_pos c3] at H
  have c3b0 : (a1 == 0) = true := beq_iff_eq.mpr c3
  have c3b1 : (a1 != 0) = false := bne_eq_false_iff_eq.mpr c3
  clear c3
  obtain rfl := Option.some.inj H
  go_enter Try.func90, Try.ntmps90
  go_wp2
  go_ret
  exact ⟨_, by first | rfl | (simp [errW_none, errW_some] <;> rfl) | (simp [*, errW_none, errW_some] <;> rfl), by first | exact Kd.R_nil _ _ _ _ _ | exact Kd.N_nil _ _ _ _ _ | exact Kd.V_nil _ _ _ _ _ | exact Kd.Q_nil _ _ _ _ _ | exact Kd.S_nil _ _ _ _ _, by repeat (first | (with_reducible first | exact HB.out | apply below_alloc | apply pw_below_drewN | apply below_drew1) | exact HB.out)⟩
 ·rw [if_neg c3] at H
  have c3b0 : (a1 == 0) = false := beq_eq_false_iff_ne.mpr c3
  have c3b1 : (a1 != 0) = true := bne_iff_ne.mpr c3
  by_cases c4 : 0 ≤ a1
  ·rw [if_pos c4] at H
   have c4b0 : decide (0 ≤ a1) = true := decide_eq_true c4
   clear c4
   by_cases c5 : a1 < (l0.length : Int)
   ·rw [if_pos c5] at H
    have c5b0 : decide (a1 < (l0.length : Int)) = true := decide_eq_true c5
    clear c5
    replace H := Option.bind_eq_some_iff.mp H
    obtain ⟨t241, A60, H⟩ := H
    try dsimp only at H
    have A6 := Aside0.mk A60
    clear A60
    by_cases c7 : t241.length + ((rd_T99 l0 a1).f1).length < 17592186044416
    ·rw [if_pos c7] at H
     have LMc7 := Aside0.mk c7
     clear c7
     obtain ⟨y245, hy245⟩ : ∃ y_ : List Int, y_ = (t241 ++ ((rd_T99 l0 a1).f1)) := ⟨_, rfl⟩
     replace H : (some y245) = some r := by first | (rw [hy245]; with_reducible exact H) | (have H2_ := (Option.bind_some _ _).symm.trans H; rw [hy245]; with_reducible exact H2_) | (have H2_ := (Option.bind_some _ _).symm.trans H; with_reducible exact H2_) | with_reducible exact H | (rw [hy245]; exact H) | exact H
     have Ny245 := Aside0.mk hy245
     clear hy245
     obtain rfl := Option.some.inj H
     go_enter Try.func90, Try.ntmps90
     try go_wp2
     have n0_ := Aside0.mk (below_drew1 HB.out)
     clear HB
     have HB := n0_
     clear n0_
     have p240 : 0 ≤ (a1 : Int) := of_decide_eq_true z3
     have q240 : a1 < (l0.length : Int) := of_decide_eq_true z3
     obtain ⟨ad240, A240_1, c240_1, e240, hx240_0, hx240_1, hl240_1, hi240_1⟩ := at_T99 HR0.out a1 p240 q240
     have hw240_1 := hx240_1
     have hw240_0 := hx240_0
     cases e240
     replace hx240_0 := (HB.out.cell (World.block_lt_of_cell? w _ hx240_0)).trans hx240_0
     replace hx240_1 := (HB.out.cell (World.block_lt_of_cell? w _ hx240_1)).trans hx240_1
     have HR240_1 := Aside0.mk hi240_1
     have HC240_1 := Aside0.mk hl240_1
     clear hi240_1 hl240_1
     replace p240 := eq_true p240
     replace q240 := eq_true q240
     have p244 : 0 ≤ (a1 : Int) := of_decide_eq_true z3
     have q244 : a1 < (l0.length : Int) := of_decide_eq_true z3
     obtain ⟨ad244, A244_1, c244_1, e244, hx244_0, hx244_1, hl244_1, hi244_1⟩ := at_T99 HR0.out a1 p244 q244
     have hw244_1 := hx244_1
     have hw244_0 := hx244_0
     obtain rfl : ad240 = ad244 := (by injection e244)
     replace hx244_0 := (HB.out.cell (World.block_lt_of_cell? w _ hx244_0)).trans hx244_0
     replace hx244_1 := (HB.out.cell (World.block_lt_of_cell? w _ hx244_1)).trans hx244_1
     have HR244_1 := Aside0.mk hi244_1
     have HC244_1 := Aside0.mk hl244_1
     clear hi244_1 hl244_1
     replace p244 := eq_true p244
     replace q244 := eq_true q244
     have ea_ := Option.some.inj (hx240_1.symm.trans hx244_1)
     injection ea_ with ea_ en_ ec_
     subst ea_
     subst ec_
     clear en_
     refine start_ (n := 14) (S := fun w' => w'.cell? (ad240.add ((a1).toNat * 2)) = some (.int .i64 ((rd_T99 l0 a1).f0)) ∧ w'.cell? ⟨(ad240.add ((a1).toNat * 2)).block, (ad240.add ((a1).toNat * 2)).off + 1, none⟩ = some (.slice A240_1 ((rd_T99 l0 a1).f1).length c240_1) ∧ w'.cell? (ad240.add ((a1).toNat * 2)) = some (.int .i64 ((rd_T99 l0 a1).f0)) ∧ w'.cell? ⟨(ad240.add ((a1).toNat * 2)).block, (ad240.add ((a1).toNat * 2)).off + 1, none⟩ = some (.slice A240_1 ((rd_T99 l0 a1).f1).length c240_1)) (ds := []) #[false, false, false, false, false, false, false, false, false, false, false, false, false, false] (by kernel_rfl) rfl rfl ⟨((HB.out.cell (World.block_lt_of_cell? w _ hw240_0)).trans hw240_0), ((HB.out.cell (World.block_lt_of_cell? w _ hw240_1)).trans hw240_1), ((HB.out.cell (World.block_lt_of_cell? w _ hw244_0)).trans hw244_0), ((HB.out.cell (World.block_lt_of_cell? w _ hw244_1)).trans hw244_1)⟩ (fun hHeld => ?_); refine with_tabW impl_classFields.tab3 impl_classFields.bits3 (fun HT_ HW_ => ?_)
     generalize w.drew = w8 at HB HR240_1 HR244_1 hx240_0 hx240_1 hx244_0 hx244_1 hHeld ⊢
     refine pS 0 7 (lA 14 1) ?_ (hc := (any_of HT_.out (by kernel_rfl)))
     refine pS 1 8 (lA 14 3) ?_ (hc := (any_of HT_.out (by kernel_rfl)))
     refine pS 2 9 (lA 14 7) ?_ (hc := (any_of HT_.out (by kernel_rfl)))
     refine pS 3 10 (lA 14 15) ?_ (hc := (any_of HT_.out (by kernel_rfl)))
     refine pS 4 11 (lA 14 31) ?_ (hc := (any_of HT_.out (by kernel_rfl)))
     refine pS 7 14 (lA 14 159) ?_ (hc := (any_of HT_.out (by kernel_rfl)))
     refine pS 8 15 (lA 14 415) ?_ (hc := (any_of HT_.out (by kernel_rfl)))
     refine pS 9 16 (lA 14 927) ?_ (hc := (any_of HT_.out (by kernel_rfl)))
     refine pS 10 17 (lA 14 1951) ?_ (hc := (any_of HT_.out (by kernel_rfl)))
     refine tS 5 12 (lA 14 1983) rfl rfl (take_ofW HT_.out HW_.out (by kernel_rfl)) hHeld z19 ?_
     refine tS 11 18 (lA 14 4031) rfl rfl (take_ofW HT_.out HW_.out (by kernel_rfl)) hHeld z19 ?_
     refine one_ (i := 6) (N := some 13) (lA 14 4095) rfl rfl (one_of HT_.out (by kernel_rfl)) (by decide) (fun K hK => ?_)
     refine goes_ Try.func90 (by kernel_rfl) rfl #[.slice (some ad240) l0.length c0, .int .i64 ((rd_T99 l0 a1).f0)] (by rfl) rfl rfl z1 ?_
     with_reducible refine (ih k (by omega) _ _ l0 ((rd_T99 l0 a1).f0) t241 _ ?side1 ?side2 A6.out).mono ?_
     (case side1 => repeat (first | exact (Kd.C_below HR0.out HB.out) | (with_reducible refine Kd.C_alloc ?_ _) | (with_reducible refine Kd.C_drewN ?_ _) | (with_reducible refine Kd.C_drew ?_)))
     (case side2 => exact HC0.out)
     rintro e w9 ⟨v242, rfl, ho0, hb⟩
     refine ⟨_, rfl, ?_⟩
     have n0_ := Aside0.mk (Kd.R_lower ho0 (below_size z2))
     have n1_ := Aside0.mk (below_step z2 hb)
     clear HB
     have HO243 := n0_
     have HB := n1_
     clear n0_ n1_
     (try clear hb)
     (try clear hb2)
     (try clear hk)
     (try clear hi)
     (try clear ho0)
     refine hK.out _ _ ⟨((HB.out.cell (World.block_lt_of_cell? w _ hw240_0)).trans hw240_0), ((HB.out.cell (World.block_lt_of_cell? w _ hw240_1)).trans hw240_1), ((HB.out.cell (World.block_lt_of_cell? w _ hw244_0)).trans hw244_0), ((HB.out.cell (World.block_lt_of_cell? w _ hw244_1)).trans hw244_1)⟩ (fun hHeld => ?_)
     clear hK K
     refine norm_ (a' := ?_) ?_ ?_
     rotate_left
     ·show Act.put _ (some 13) _ = _
      simp only [Act.put, lA1, lA2, lA3, i64_w, i32_w]
      rfl
     refine one_ (i := 12) (N := some 19) (lA 14 8191) rfl rfl (one_of HT_.out (by kernel_rfl)) (by decide) (fun K hK => ?_)
     refine Kd.R_append_rows_step (Kd.int .i64) (w0 := w) w.heap.size (by rfl) (.tmp 13) (.tmp 18) 24 3 (.int .i64 0) 8 rfl Try.underlying24 info3 rfl (by decide) (by omega) v242 t241 ((rd_T99 l0 a1).f1) _ _ _ (fun _ => True) (fun _ => False) rfl rfl ?aO ?aR (fun _ _ h => h) (fun _ h => h.elim) ?aF ?aB ?aS ?aL ?_
     (case aR => repeat (first | exact (Kd.C_below HR244_1.out HB.out) | (with_reducible refine Kd.C_alloc ?_ _) | (with_reducible refine Kd.C_drewN ?_ _) | (with_reducible refine Kd.C_drew ?_)))
     (case aB => exact z2)
     (case aF => exact (fun _ _ => trivial))
     (case aO => exact (by (with_reducible repeat (first | apply Kd.R_alloc | apply Kd.R_drewN | apply Kd.R_drew)); exact HO243.out))
     (case aS => exact (below_size z2))
     (case aL => have := LMc7.out; omega)
     intro v246 w10 ho hb hg hat
     rw [← Ny245.out] at ho
     have n0_ := Aside0.mk (hb)
     have n1_ := Aside0.mk (ho)
     clear HB
     clear HO243
     have HB := n0_
     have HO247 := n1_
     clear n0_ n1_
     clear ho hb hg hat
     refine hK.out _ _ ⟨((HB.out.cell (World.block_lt_of_cell? w _ hw240_0)).trans hw240_0), ((HB.out.cell (World.block_lt_of_cell? w _ hw240_1)).trans hw240_1), ((HB.out.cell (World.block_lt_of_cell? w _ hw244_0)).trans hw244_0), ((HB.out.cell (World.block_lt_of_cell? w _ hw244_1)).trans hw244_1)⟩ (fun hHeld => ?_)
     clear hK K
     refine norm_ (a' := ?_) ?_ ?_
     rotate_left
     ·show Act.put _ (some 19) _ = _
      simp only [Act.put, lA1, lA2, lA3, i64_w, i32_w]
      rfl
     refine pS 13 4 (lA 14 16383) ?_ (hc := (any_of HT_.out (by kernel_rfl)))
     refine done_ (done_of HT_.out (by kernel_rfl)) ?_
     try go_wp2
     go_ret
     exact ⟨_, by first | rfl | (simp [errW_none, errW_some] <;> rfl) | (simp [*, errW_none, errW_some] <;> rfl), by (with_reducible repeat (first | apply Kd.R_alloc | apply Kd.R_drewN | apply Kd.R_drew)); exact HO247.out, by repeat (first | (with_reducible first | exact HB.out | apply below_alloc | apply pw_below_drewN | apply below_drew1) | exact HB.out)⟩
    ·rw [if_neg c7] at H
     exact absurd H (by simp)
   ·rw [if_neg c5] at H
    exact absurd H (by simp)
  ·rw [if_neg c4] at H
   exact absurd H (by simp)
end Go.Proofs.Ytfbkpjjnhengfaa.K
namespace Go.Proofs.Ytfbkpjjnhengfaa.K
open Go.RowKit Go.Proofs.YtfbkpjjnhengfaaW.PrintWords Go.Proofs.YtfbkpjjnhengfaaW.PrintLast Go.Proofs.YtfbkpjjnhengfaaW.PrintMore
attribute [local go_sem] max2_int min2_int max_two min_two max_three min_three max_four min_four
set_option linter.unusedVariables false
set_option linter.unusedSimpArgs false
def impl_allFields.l0 : Nat → List (S99) → List (List Int) → Int → Int → Option ((List (List Int)))
  | 0, _, _, _, _ => none
  | k + 1, x0, x3, x6, x7 => if x7 < x6 then ((impl_classFields.f k x0 x7).bind fun t248 => (if x3.length < 5864062014805 then (impl_allFields.l0 k x0 (x3 ++ [t248]) x6 (wrap64 (x7 + 1))) else (none))) else (some x3)
def impl_allFields.f (k : Nat) (l0 : List (S99)) : Option ((List (List Int))) := impl_allFields.l0 k l0 ([] : List (List Int)) (l0.length : Int) 0
set_option maxHeartbeats 8000000 in
set_option maxRecDepth 100000 in
theorem impl_allFields.calls (k : Nat) (A0 : Option Addr) (c0 : Nat) (l0 : List (S99)) (r : List (List Int)) (w : World) (hr0 : Kd.C k99 w A0 l0.length l0) (hc0 : l0.length ≤ c0) (h : impl_allFields.f k l0 = some r) :
  Calls Try.prog 58 #[.slice A0 l0.length c0] w fun e w' => ∃ v0_ : Value, e = .returned (v0_) ∧ Kd.S (Kd.slice 3 (Kd.int .i64)) 24 w' w.heap.size (fun _ => True) v0_ r ∧ Below w.heap.size w w' := by
 have HR0 := Aside0.mk hr0
 have HC0 := Aside0.mk hc0
 clear hr0 hc0
 have HB := Aside0.mk (Below.refl w.heap.size w)
 have H : (impl_allFields.l0 k l0 ([] : List (List Int)) (l0.length : Int) 0) = some r := h
 clear h
 have H' := Aside0.mk H
 clear H
 go_enter Try.func58, Try.ntmps58
 go_wp2
 go_loopg [3, 7] k (fun kq v3 v7 w' => ∃ (x3_1 : List (List Int)) (x7_1 : Int), v7 = .int .i64 x7_1 ∧ Aside0 (impl_allFields.l0 kq l0 x3_1 (l0.length : Int) x7_1 = some r) ∧ Aside0 (kq ≤ k) ∧ Aside0 (Kd.S (Kd.slice 3 (Kd.int .i64)) 24 w' w.heap.size (fun _ => True) v3 x3_1) ∧ Aside0 (Below w.heap.size w w'))
 case atStart => exact ⟨(([] : List (List Int))), (0), z7, H', ⟨Nat.le_refl _⟩, ⟨by first | exact Kd.S_nil _ _ _ _ _ | exact Kd.N_nil _ _ _ _ _ | exact Kd.V_nil _ _ _ _ _ | exact Kd.Q_nil _ _ _ _ _ | exact Kd.R_nil _ _ _ _ _⟩, ⟨by repeat (first | (with_reducible first | exact HB.out | apply below_alloc | apply pw_below_drewN | apply below_drew1) | exact HB.out)⟩⟩
 case round =>
  clear H'
  obtain ⟨x3_1, x7_1, rfl, HA, HK1, HO_3, HB⟩ := hrel
  cases gk with
  | zero => exact absurd HA.out (by simp [impl_allFields.l0])
  | succ k1 =>
   have H := HA.out
   clear HA
   simp only [impl_allFields.l0] at H
   by_cases c2 : x7_1 < (l0.length : Int)
   ·rw [if_pos c2] at H
    have c2b0 : decide (x7_1 < (l0.length : Int)) = true := decide_eq_true c2
    clear c2
    replace H := Option.bind_eq_some_iff.mp H
    obtain ⟨t248, A30, H⟩ := H
    try dsimp only at H
    have A3 := Aside0.mk A30
    clear A30
    by_cases c4 : x3_1.length < 5864062014805
    ·rw [if_pos c4] at H
     have LMc4 := Aside0.mk c4
     clear c4
     obtain ⟨y251, hy251⟩ : ∃ y_ : List (List Int), y_ = (x3_1 ++ [t248]) := ⟨_, rfl⟩
     replace H : (impl_allFields.l0 k1 l0 y251 (l0.length : Int) (wrap64 (x7_1 + 1))) = some r := by first | (rw [hy251]; with_reducible exact H) | (have H2_ := (Option.bind_some _ _).symm.trans H; rw [hy251]; with_reducible exact H2_) | (have H2_ := (Option.bind_some _ _).symm.trans H; with_reducible exact H2_) | with_reducible exact H | (rw [hy251]; exact H) | exact H
     have Ny251 := Aside0.mk hy251
     clear hy251
     have H' := Aside0.mk H
     clear H
     go_wp2_with (first | ((with_reducible refine gate_callee (f := 90) rfl ?_); refine goesL_ (some 13) rfl rfl Try.func90 (by kernel_rfl) rfl #[.slice A0 l0.length c0, .int .i64 x7_1] rfl z1 ?_; (with_reducible refine (impl_classFields.calls k1 _ _ l0 x7_1 t248 _ ?side1 ?side2 A3.out).mono ?_); (case side1 => repeat (first | exact (Kd.C_below HR0.out HB.out) | (with_reducible refine Kd.C_alloc ?_ _) | (with_reducible refine Kd.C_drewN ?_ _) | (with_reducible refine Kd.C_drew ?_))); (case side2 => exact HC0.out); rintro e w5 ⟨v249, rfl, ho0, hb⟩; refine ⟨_, rfl, ?_⟩; have HO250 := Aside0.mk (Kd.R_lower ho0 (below_size z2)); replace HO_3 := Aside0.mk (Kd.S_elder' (by (with_reducible repeat (first | apply Kd.S_alloc | apply Kd.S_drewN | apply Kd.S_drew)); exact HO_3.out) (Kd.R_base ho0) hb); replace HB := Aside0.mk (below_step z2 hb); (try clear hb); (try clear hb2); (try clear hk); (try clear hi); (try clear ho0); obtain ⟨Ao7, co7, eo7⟩ := Kd.R_slice HO250.out; subst eo7) | ((with_reducible refine gate_builtin (b := .append) (xs := #[.tmp 10, .tmp 14]) rfl ?_); at_builtin; refine Kd.S_append (Kd.slice 3 (Kd.int .i64)) (w0 := w) w.heap.size rfl (.tmp 10) (.tmp 14) 53 24 (.slice none 0 0) 24 rfl Try.underlying53 info24 rfl (by decide) (by omega) u3 x3_1 t248 [.slice Ao7 t248.length co7] (fun _ => True) (fun k_ => some k_ = (.slice Ao7 t248.length co7 : Value).ownBlock) rfl rfl ?aP (fun k_ hk_ => ((Kd.R_mono (ok' := fun k_ => ((fun _ => True)) k_ ∧ some k_ ≠ (u3 : Value).ownBlock) (Kd.R_apart' (HO250.out) (Kd.S_typed HO_3.out) (by decide)) (fun k_ hk => ⟨trivial, hk.2⟩))).1 k_ hk_.symm) ?aF ?aO ?aB ?aS ?aL ?_; (case aP => exact Kd.M_row (Kd.R_mono (Kd.R_tight rfl (Kd.R_mono (ok' := fun k_ => ((fun _ => True)) k_ ∧ some k_ ≠ (u3 : Value).ownBlock) (Kd.R_apart' (HO250.out) (Kd.S_typed HO_3.out) (by decide)) (fun k_ hk => ⟨trivial, hk.2⟩))) (fun _ h_ => h_))); (case aB => exact z2); (case aF => exact (fun _ _ => trivial)); (case aO => exact (by (with_reducible repeat (first | apply Kd.S_alloc | apply Kd.S_drewN | apply Kd.S_drew)); exact Kd.S_mono HO_3.out (fun k_ hk => ⟨trivial, fun e_ => hk.2 e_⟩))); (case aS => exact (below_size z2)); (case aL => have := LMc4.out; omega); intro v252 w6 ho hb hg hat; rw [← Ny251.out] at ho; have n0_ := Aside0.mk (hb); have n1_ := Aside0.mk (ho); clear HB; clear HO_3; clear HO250; have HB := n0_; have HO253 := n1_; clear n0_ n1_; clear ho hb hg hat))
     go_roundg k1
     case measure => have := HK1.out; omega
     case rel => exact ⟨(y251), (wrap64 (x7_1 + 1)), z7, H', ⟨by have := HK1.out; omega⟩, ⟨by (with_reducible repeat (first | apply Kd.S_alloc | apply Kd.S_drewN | apply Kd.S_drew)); exact HO253.out⟩, ⟨by repeat (first | (with_reducible first | exact HB.out | apply below_alloc | apply pw_below_drewN | apply below_drew1) | exact HB.out)⟩⟩
    ·rw [if_neg c4] at H
     exact absurd H (by simp)
   ·rw [if_neg c2] at H
    have c2b0 : decide (x7_1 < (l0.length : Int)) = false := decide_eq_false c2
    clear c2
    obtain rfl := Option.some.inj H
    go_wp2
    go_ret
    exact ⟨_, by first | rfl | (simp [errW_none, errW_some] <;> rfl) | (simp [*, errW_none, errW_some] <;> rfl), by (with_reducible repeat (first | apply Kd.S_alloc | apply Kd.S_drewN | apply Kd.S_drew)); exact HO_3.out, by repeat (first | (with_reducible first | exact HB.out | apply below_alloc | apply pw_below_drewN | apply below_drew1) | exact HB.out)⟩
end Go.Proofs.Ytfbkpjjnhengfaa.K
