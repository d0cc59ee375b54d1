import Derived.Test.YtmniglgahodghaaPr24
import Derived.Test.YtmniglgahodghaaPr35
import Derived.Test.YtmniglgahodghaaPr29
import Derived.Test.YtmniglgahodghaaPr33
import Derived.Test.YtmniglgahodghaaPr32
import Derived.Test.YtmniglgahodghaaPr31
import Derived.Test.YtmniglgahodghaaPr34
import Derived.Test.YtmniglgahodghaaPr28
import Derived.Test.YtmniglgahodghaaPr30
import Derived.Test.YtmniglgahodghaaPr27
import Derived.Test.YtmniglgahodghaaPr36
namespace Go.Proofs.Ytmniglgahodghaa.Pure
open Go.RowKit Go.Proofs.Ytmniglgahodghaa.K Go.Proofs.YtmniglgahodghaaW.PrintWords Go.Proofs.YtmniglgahodghaaW.PrintLast Go.Proofs.YtmniglgahodghaaW.PrintMore
set_option linter.unusedVariables false
set_option linter.unusedSimpArgs false
theorem refs_eq {cs : Cs} {ws : List Int} {y t o : Int} {cards : List Bool} (hb : Bnd cs ws y t o cards) {c hd cnt x : Int} (hc : c = rd ws x) (h0 : 0 ≤ x) (hhd : hd = 1 ∨ hd = 2) (hcn : 0 ≤ cnt) (hcn8 : cnt ≤ 8) (hsz : x + hd + cnt ≤ ws.length) (hhe : spec_l21Head.f c = some hd) (hl21 : ∀ k, 20 ≤ k → spec_l21Size.f k cs ws x ws.length = some (hd + cnt)) (hcc : c = -1 ∨ c = -2 ∨ (0 ≤ c ∧ c < cs.length ∧ hd = 1 ∧ cnt = (cfl cs c).length)) :
  ∀ k, 200 ≤ k → spec_l21Refs.f k cs ws x = some (refsL cs c hd (hd + cnt)) := by
 intro k hk
 unfold spec_l21Refs.f
 rw [hl21 k (by omega), Option.bind_some, if_pos (by omega), if_pos (by omega), if_pos h0, if_pos (by omega), ← hc, hhe, Option.bind_some]
 have := refs_l0 hb.ok (c := c) (hd := hd) (s := (hd + cnt).toNat) (by omega) hhd (by rcases hcc with z | z | z; exact .inl z; exact .inr (.inl z); exact .inr (.inr ⟨z.1, z.2.1, z.2.2.1, by omega⟩)) ((hd + cnt).toNat - hd.toNat) k hd.toNat (List.replicate (hd + cnt).toNat false) (by omega) (by omega) (by omega) (by simp) (fun i hi => by
  rw [List.getD_eq_getElem?_getD, List.getElem?_replicate, if_pos hi]
  rw [decide_eq_false (by omega)]; rfl)
 rw [show ((hd.toNat : Nat) : Int) = hd by omega, show (((hd + cnt).toNat : Nat) : Int) = hd + cnt by omega] at this
 exact this
theorem l21Copy_eq (ws : List Int) (y t o : Int) (cards : List Bool) (h0 : ws.length ≤ 1048576) (h4 : cards.length ≤ 1048576) : spec_l21Copy.f ws y t o cards = some (ws, y, t, o, cards) := by
 unfold spec_l21Copy.f
 rw [Option.bind_some, if_pos (by simp; omega), Option.bind_some, if_pos (by simp; omega)]
 simp
def putM (ws : List Int) (y : Int) (cards : List Bool) (i v : Int) (ref : Bool) : List Int × List Bool :=
  (ws.set i.toNat v, if ref = true ∧ i ≥ y ∧ 1 ≤ v ∧ v ≤ y then cards.set ((i - y) / 4).toNat true else cards)
theorem l21Put_eq {ws : List Int} {y t o : Int} {cards : List Bool} {i v : Int} (ref : Bool) (hn : ws.length ≤ 1048576) (hi0 : 0 ≤ i) (hi : i < ws.length) (hy : 0 ≤ y) (hy1 : y ≤ 40) (hcd : i ≥ y → (i - y) / 4 < (cards.length : Int)) :
  spec_l21Put.f ws y t o cards i v ref = some ((putM ws y cards i v ref).1, y, t, o, (putM ws y cards i v ref).2) := by
 unfold spec_l21Put.f putM
 rw [if_pos hi0, if_pos hi, Option.bind_some]
 cases ref with
 | false => simp
 | true =>
  rw [if_pos rfl]
  by_cases c1 : i ≥ y
  ·rw [if_pos c1, spec_l6In_eq]
   simp only [Option.bind_some, decide_eq_true_eq]
   by_cases c2 : 1 ≤ v ∧ v ≤ y
   ·have := hcd c1
    rw [if_pos c2, wrap64_of (n := i - y) (by omega) (by omega), Int.tdiv_eq_ediv_of_nonneg (by omega), wrap64_of (n := (i - y) / 4) (by omega) (by omega), if_pos (by omega), if_pos this, if_pos ⟨trivial, c1, c2⟩]
   ·rw [if_neg c2, if_neg (fun h => c2 h.2.2)]
  ·rw [if_neg c1, if_neg (fun h => c1 h.2.1)]
theorem MemPut_eq {cs : Cs} (hf : fewF cs) {ws : List Int} {y t o : Int} {cards : List Bool} (hn : ws.length ≤ 1048576) (hc : cards.length ≤ 1048576) (a b v : Int) :
    ∃ s : List Int × Int × Int × Int × List Bool × Bool, s.1.length ≤ 1048576 ∧ s.2.2.2.2.1.length ≤ 1048576 ∧ (∀ k, 4000000 ≤ k → impl_MemPut.f k cs ws y t o cards a b v = some s) ∧ ∀ k, 4000000 ≤ k → spec_MemPut.f k cs ws y t o cards a b v = some s := by
  obtain ⟨r, h1, h2, h3⟩ := open_eq2 (cs := cs) hf (ws := ws) (y := y) (t := t) (o := o) (cards := cards) hn hc
  cases r with
  | none => exact ⟨([], 0, 0, 0, [], false), by simp, by simp, fun k hk => by unfold impl_MemPut.f; rw [h1 k hk]; rfl, fun k hk => by unfold spec_MemPut.f; rw [h2 k hk]; rfl⟩
  | some m =>
    obtain ⟨W, hb, hw, hm, hk, hp, _⟩ := h3 m rfl
    have n0 := hb.n0; have n1 := hb.n1; have y0 := hb.y0; have y1 := hb.y1; have t0 := hb.t0; have t1 := hb.t1; have o0 := hb.o0; have o1 := hb.o1; have cd := hb.cd
    have hh := has_eq hw m (by rw [hm]) a
    have hi := is_eq hb hw hk a
    have hS : ∀ k, 4000000 ≤ k → spec_MemPut.f k cs ws y t o cards a b v = (spec_l21Inside.f k cs ws y t o cards a b).bind fun i => if i.2 = true then (spec_l21Refs.f k cs ws (wrap64 (a - 1))).bind fun R =>
        if 0 ≤ wrap64 (wrap64 (i.1 - a) + 1) ∧ wrap64 (wrap64 (i.1 - a) + 1) < (R.length : Int) then (spec_l21Walk.f k cs ws y t o cards).bind fun W =>
          if rdOf false R (wrap64 (wrap64 (i.1 - a) + 1)) = true then (spec_l21Starts.f k (ws.length : Int) W.1).bind fun T => (spec_l21Lead.f T v).bind fun ld => sput_end k ld ws y t o cards i.1 v true
          else (spec_l1Word.f v).bind fun z => sput_end k z ws y t o cards i.1 v false
        else none
      else some ([], 0, 0, 0, [], false) := fun k hk2 => by
      unfold spec_MemPut.f
      rw [h2 k hk2, Option.bind_some]
      simp only [Option.isSome_some, if_true]
    have hI0 : ∀ k, impl_MemPut.f k cs ws y t o cards a b v = (mopen k k cs ws y t o cards).bind fun r => putOf k a b v r := fun k => rfl
    by_cases c : a - 1 ∈ W
    case neg =>
      refine ⟨([], 0, 0, 0, [], false), by simp, by simp, fun k hk2 => ?_, fun k hk2 => ?_⟩
      · rw [hI0, h1 k hk2, Option.bind_some]
        unfold putOf memory_hasIn.f
        dsimp only
        rw [hh k (by omega), Option.bind_some, decide_eq_false c]; rfl
      · rw [hS k hk2]
        unfold spec_l21Inside.f
        rw [hi k hk2, Option.bind_some, decide_eq_false c]; rfl
    case pos =>
    obtain ⟨cc, hd, cnt, hcc, h0, hhd, hcn, hcn8, hsz, hco, hfi, hhe, hl21, hle, hcl⟩ := thing_facts hb hw m hm c
    rw [show a - 1 + 1 = a by omega] at hco hfi hle
    have hI : ∀ k, 4000000 ≤ k → spec_l21Inside.f k cs ws y t o cards a b = some (wrap64 (wrap64 (a - 1 + hd) + b), decide (0 ≤ b ∧ b ≤ cnt - 1)) := fun k hk2 => by
      unfold spec_l21Inside.f
      rw [hi k hk2, Option.bind_some, decide_eq_true c, if_pos rfl, wrap64_of (n := a - 1) (by omega) (by omega), if_pos (by omega), if_pos (by omega), ← hcc, hhe, Option.bind_some, hl21 k (by omega), Option.bind_some, spec_l6In_eq, Option.bind_some,
        show hd + cnt - hd = cnt by omega, wrap64_of (n := cnt) (by omega) (by omega), wrap64_of (n := cnt - 1) (by omega) (by omega)]
    by_cases z : 0 ≤ b ∧ b ≤ cnt - 1
    case neg =>
      refine ⟨([], 0, 0, 0, [], false), by simp, by simp, fun k hk2 => ?_, fun k hk2 => ?_⟩
      · rw [hI0, h1 k hk2, Option.bind_some]
        unfold putOf memory_hasIn.f
        dsimp only
        rw [hh k (by omega), Option.bind_some, decide_eq_true c, if_pos rfl]
        by_cases z0 : 0 ≤ b
        · rw [if_pos z0, hco, Option.bind_some, decide_eq_false (show ¬ b < cnt by omega)]; rfl
        · rw [if_neg z0]; rfl
      · rw [hS k hk2, hI k hk2, Option.bind_some, decide_eq_false z]; rfl
    case pos =>
    obtain ⟨i, hii⟩ : ∃ i, i = a - 1 + hd + b := ⟨_, rfl⟩
    have hiw : wrap64 (wrap64 (a - 1 + hd) + b) = i := by rw [wrap64_of (n := a - 1 + hd) (by omega) (by omega), wrap64_of (by omega) (by omega), hii]
    have hRl : ((refsL cs cc hd (hd + cnt)).length : Int) = hd + cnt := by unfold refsL; rw [List.length_map, List.length_range]; omega
    have hrd : rdOf false (refsL cs cc hd (hd + cnt)) (hd + b) = ldB cs cc b := by rw [refsL_at cs cc hd (hd + cnt) (by omega) (by omega) (by omega), show hd + b - hd = b by omega]
    have hpart := part_facts hb hp c hl21
    have hcd : i ≥ y → (i - y) / 4 < (cards.length : Int) := fun _ => by omega
    have hS2 : ∀ k, 4000000 ≤ k → spec_MemPut.f k cs ws y t o cards a b v = if ldB cs cc b = true then sput_end k (decide (v = 0) || decide (v - 1 ∈ W)) ws y t o cards i v true else sput_end k (decide (-128 ≤ v ∧ v ≤ 127)) ws y t o cards i v false := fun k hk2 => by
      rw [hS k hk2, hI k hk2, Option.bind_some, decide_eq_true z, if_pos rfl]
      dsimp only
      rw [wrap64_of (n := a - 1) (by omega) (by omega), refs_eq hb hcc h0 hhd hcn hcn8 hsz hhe hl21 hcl k (by omega), Option.bind_some, hiw, wrap64_of (n := i - a) (by omega) (by omega), wrap64_of (n := i - a + 1) (by omega) (by omega), show i - a + 1 = hd + b by omega, if_pos (by omega), hk k hk2, Option.bind_some, hrd]
      by_cases l : ldB cs cc b = true
      · rw [if_pos l, if_pos l, starts_eq (fun x hx => wlk_range hw hx) (by have := hw.len; omega) (by omega) k (by omega), Option.bind_some, lead_eq hw hn, Option.bind_some]
      · rw [if_neg l, if_neg l]
        unfold spec_l1Word.f
        rw [spec_l6In_eq]; rfl
    have hE : ∀ k (ok ref : Bool), sput_end k ok ws y t o cards i v ref = if ok = true then some ((putM ws y cards i v ref).1, y, t, o, (putM ws y cards i v ref).2, true) else some ([], 0, 0, 0, [], false) := fun k ok ref => by
      unfold sput_end
      cases ok with
      | false => rfl
      | true => rw [if_pos rfl, if_pos rfl, l21Copy_eq ws y t o cards hn hc, Option.bind_some]; dsimp only; rw [l21Put_eq ref hn (by omega) (by omega) y0 y1 hcd, Option.bind_some]
    have hl1 : ∀ ref, (putM ws y cards i v ref).1.length ≤ 1048576 := fun ref => by unfold putM; rw [List.length_set]; exact hn
    have hl4 : ∀ ref, (putM ws y cards i v ref).2.length ≤ 1048576 := fun ref => by unfold putM; dsimp only; split; rw [List.length_set]; exact hc; exact hc
    have hP : ∀ k, 4000000 ≤ k → impl_MemPut.f k cs ws y t o cards a b v = (memory_put.f k m a b v).bind fun p => if p.1 = true then some (p.2.words, p.2.young, p.2.top, p.2.old, p.2.cards, true) else some ([], 0, 0, 0, [], false) := fun k hk2 => by
      rw [hI0, h1 k hk2, Option.bind_some]
      unfold putOf memory_hasIn.f
      dsimp only
      rw [hh k (by omega), Option.bind_some, decide_eq_true c, if_pos rfl, if_pos z.1, hco, Option.bind_some, decide_eq_true (show b < cnt by omega), Option.bind_some, if_pos rfl]
    have hmem : m.words = ws ∧ m.young = y ∧ m.top = t ∧ m.old = o ∧ m.cards = cards := by rw [hm]; exact ⟨rfl, rfl, rfl, rfl, rfl⟩
    obtain ⟨m0, m1, m2, m3, m4⟩ := hmem
    have hQ : ∀ k, memory_put.f k m a b v = if ldB cs cc b = true then
        (if v = 0 then some (true, m.setW i v) else (memory_has.f k m v).bind fun h => if h = true then
          (if a > y then (if v > y then some (true, m.setW i v) else (if 0 ≤ Int.tdiv (i - y) 4 ∧ Int.tdiv (i - y) 4 < (cards.length : Int) then some (true, (m.setC (Int.tdiv (i - y) 4)).setW i v) else none)) else some (true, m.setW i v)) else some (false, m))
        else (impl_isWord.f v).bind fun z => if z = true then some (true, m.setW i v) else some (false, m) := fun k => by
      unfold memory_put.f
      rw [hfi, Option.bind_some, hle b z.1 (by omega), Option.bind_some, m0, m1, m4, show a - 1 + hd + b = i from hii.symm, if_pos (by omega)]
    by_cases l : ldB cs cc b = true
    case neg =>
      have hw8 : impl_isWord.f v = some (decide (-128 ≤ v ∧ v ≤ 127)) := by
        unfold impl_isWord.f
        by_cases q : v ≥ -128
        · rw [if_pos q]; simp [show -128 ≤ v from q]
        · rw [if_neg q]; simp [show ¬ -128 ≤ v from q]
      by_cases q : -128 ≤ v ∧ v ≤ 127
      · refine ⟨((putM ws y cards i v false).1, y, t, o, (putM ws y cards i v false).2, true), hl1 false, hl4 false, fun k hk2 => ?_, fun k hk2 => ?_⟩
        · rw [hP k hk2, hQ, if_neg l, hw8, decide_eq_true q, Option.bind_some, if_pos rfl, Option.bind_some, if_pos rfl]
          unfold Mm.setW putM
          simp [m0, m1, m2, m3, m4]
        · rw [hS2 k hk2, if_neg l, hE, decide_eq_true q, if_pos rfl]
      · refine ⟨([], 0, 0, 0, [], false), by simp, by simp, fun k hk2 => ?_, fun k hk2 => ?_⟩
        · rw [hP k hk2, hQ, if_neg l, hw8, decide_eq_false q]; rfl
        · rw [hS2 k hk2, if_neg l, hE, decide_eq_false q]; rfl
    case pos =>
    by_cases v0 : v = 0
    · refine ⟨((putM ws y cards i v true).1, y, t, o, (putM ws y cards i v true).2, true), hl1 true, hl4 true, fun k hk2 => ?_, fun k hk2 => ?_⟩
      · rw [hP k hk2, hQ, if_pos l, if_pos v0, Option.bind_some, if_pos rfl]
        unfold Mm.setW putM
        dsimp only
        rw [if_neg (by omega), m0, m1, m2, m3, m4]
      · rw [hS2 k hk2, if_pos l, hE, decide_eq_true v0]; rfl
    have hhv := has_eq hw m (by rw [hm]) v
    by_cases vw : v - 1 ∈ W
    case neg =>
      refine ⟨([], 0, 0, 0, [], false), by simp, by simp, fun k hk2 => ?_, fun k hk2 => ?_⟩
      · rw [hP k hk2, hQ, if_pos l, if_neg v0, hhv k (by omega), decide_eq_false vw]; rfl
      · rw [hS2 k hk2, if_pos l, hE, decide_eq_false v0, decide_eq_false vw]; rfl
    case pos =>
    have hvr := wlk_range hw vw
    refine ⟨((putM ws y cards i v true).1, y, t, o, (putM ws y cards i v true).2, true), hl1 true, hl4 true, fun k hk2 => ?_, fun k hk2 => ?_⟩
    · rw [hP k hk2, hQ, if_pos l, if_neg v0, hhv k (by omega), decide_eq_true vw, Option.bind_some, if_pos rfl]
      by_cases g1 : a > y
      · rw [if_pos g1]
        by_cases g2 : v > y
        · rw [if_pos g2, Option.bind_some, if_pos rfl]
          unfold Mm.setW putM
          dsimp only
          rw [if_neg (by omega), m0, m1, m2, m3, m4]
        · have := hcd (by omega)
          rw [if_neg g2, Int.tdiv_eq_ediv_of_nonneg (by omega), if_pos (by omega), Option.bind_some, if_pos rfl]
          unfold Mm.setW Mm.setC putM
          dsimp only
          rw [if_pos ⟨rfl, by omega, by omega, by omega⟩, m0, m1, m2, m3, m4]
      · rw [if_neg g1, Option.bind_some, if_pos rfl]
        unfold Mm.setW putM
        dsimp only
        rw [if_neg (by omega), m0, m1, m2, m3, m4]
    · rw [hS2 k hk2, if_pos l, hE, decide_eq_false v0, decide_eq_true vw]; rfl
theorem FnExactMemPut : laws_FnExactMemPut.Pure := by
 intro l M a b v hl hM _ _ _
 refine Ev.rounds ?_
 simp only [laws_FnExactMemPut.f]
 refine small_ev l M hl hM (fun q1 q2 q3 q4 => ?_)
 have hF := fewF_of q2
 have hL : (toCs l).length ≤ 1048576 := by unfold toCs; rw [List.length_map]; exact q1
 obtain ⟨⟨s0, s1, s2, s3, s4, s5⟩, b0, b4, h1, h2⟩ := MemPut_eq (cs := toCs l) hF (ws := M.f0) (y := M.f1) (t := M.f2) (o := M.f3) (cards := M.f4) q3 q4 a b v
 dsimp only at b0 b4
 refine (toClassS_ev l q2 q1).bind ?_
 refine (toMem_ev M q3 q4).bind ?_
 refine evp ⟨rfl, hL⟩ ?_
 refine (ev_from 4000000 h2).bind ?_
 refine (ev_from 4000000 h1).bind ?_
 have hse := eqMem_ev s0 s1 s2 s3 s4 s0 s1 s2 s3 s4 (by omega) (by omega)
 simp only [and_self, decide_true] at hse
 refine hse.bind ?_
 refine (eqClassS_ev l q2 q1).bind ?_
 refine (eqMem_self M q3 q4).bind ?_
 obtain ⟨c, e, c0, c1⟩ := mcs_ev (toCs l) 1 (by omega) (fun c hc => by
  obtain ⟨c', hc', rfl⟩ := List.mem_map.mp hc
  exact q2 c' hc') (by omega)
 refine e.bind ?_
 refine (markMem_ev M.f0 M.f1 M.f2 M.f3 M.f4 c c0 (by omega) (by omega) (by omega)).bind ?_
 refine (markMem_ev s0 s1 s2 s3 s4 1 (by omega) (by omega) (by omega) (by omega)).bind ?_
 refine (heldMem_ev s0.length s4.length s1 s2 s3 1 (by omega) (by omega) (by omega) (by omega)).bind ?_
 exact evp ⟨rfl, ⟨rfl, rfl, rfl⟩, by show 0 ≤ c + (M.f0.length : Int) + M.f4.length; omega, rfl, by omega⟩ (Ev.now _)
end Go.Proofs.Ytmniglgahodghaa.Pure
