import Derived.Test.YtfcbeodndplenaaPFnExactTypeJoin3
import Derived.Test.YtfcbeodndplenaaPFnExactTypeJoin4

/- Function 84, impl_kind: what it answers, and the walk. (Printed or laid by this session's program wip/pr.py.) -/
namespace Go.Proofs.Ytfcbeodndplenaa.K
open Go.RowKit Go.Proofs.YtfcbeodndplenaaW.PrintWords Go.Proofs.YtfcbeodndplenaaW.PrintLast Go.Proofs.YtfcbeodndplenaaW.PrintMore
attribute [local go_sem] max2_int min2_int max_two min_two max_three min_three max_four min_four
set_option linter.unusedVariables false
set_option linter.unusedSimpArgs false

/-! ### impl_kind: function 84 -/
/-- Kinds, told by their numbers. -/
def kKnd : Kd Int := Kd.scalar kndV (fun x => by obtain ⟨u, v, h⟩ := kndV_iface x; rw [h]; rfl)
/-- Is one under all of those that count? -/
def nearIn (cn : Int → Option Bool) (un : Int → Int → Option Bool) (one : Int) : List Int → Option Bool
  | [] => some true
  | o :: os => (cn o).bind fun c => if c = true then ((un one o).bind fun u => if u = true then nearIn cn un one os else some false) else nearIn cn un one os
/-- The first that counts and is under all that count. -/
def nearOut (cn : Int → Option Bool) (un : Int → Int → Option Bool) (all : List Int) : List Int → Option (Option Int)
  | [] => some none
  | o :: os => (cn o).bind fun c => if c = true then ((nearIn cn un o all).bind fun l => if l = true then some (some o) else nearOut cn un all os) else nearOut cn un all os
theorem kKnd_at {W : World} {A : Option Addr} {l : List Int} (h : Kd.C kKnd W A l.length l) (i : Nat) (hi : i < l.length) : ∃ ad, A = some ad ∧ W.cell? (ad.add i) = some (kndV (l.getD i 0)) := by
  obtain ⟨ad, c, hA, hl, hk, hc⟩ := Kd.C_get h 0 (i : Int) (by omega) (by omega)
  have hk' : c = [kndV (l.getD i 0)] := by have e : c = [kndV (l.getD ((i : Int).toNat) 0)] := hk; simpa using e
  refine ⟨ad, hA, ?_⟩
  have := hc 0 (kndV (l.getD i 0)) (by rw [hk']; rfl)
  simpa [kKnd, Kd.scalar] using this
set_option maxHeartbeats 8000000 in
set_option maxRecDepth 100000 in
theorem nearest_calls (p1 p2 p3 : Value) (cn : Int → Option Bool) (un : Int → Int → Option Bool) (A : Option Addr) (c : Nat) (l : List Int) (r : Option Int) (W : World)
    (hr : Kd.C kKnd W A l.length l) (hc : l.length ≤ c) (hl : l.length ≤ 1005)
    (H1 : ∀ t w1 b, t ∈ l → Below W.heap.size W w1 → cn t = some b → Calls Try.prog 81 #[kndV t, p1, p2, p3] w1 fun e w2 => e = .returned (.bool b) ∧ Below w1.heap.size w1 w2)
    (H2 : ∀ s t w1 b, s ∈ l → t ∈ l → Below W.heap.size W w1 → un s t = some b → Calls Try.prog 83 #[kndV s, kndV t, p1] w1 fun e w2 => e = .returned (.bool b) ∧ Below w1.heap.size w1 w2)
    (h : nearOut cn un l l = some r) :
    Calls Try.prog 84 #[.slice A l.length c, .func (.func 81) #[] #[p1, p2, p3], .func (.func 83) #[] #[p1]] W fun e w' => e = .returned (.tuple #[r.elim .nilIface kndV, .bool r.isSome]) ∧ Below W.heap.size W w' := by
  have HR := Aside0.mk hr
  have K1 := Aside0.mk H1
  have K2 := Aside0.mk H2
  have H := Aside0.mk h
  clear hr H1 H2 h
  go_enter Try.func84, Try.ntmps84
  go_wp2
  go_loopw [16] (fun i wr => ∃ k : Nat, k ≤ l.length ∧ i = .int .i64 k ∧ Aside0 (nearOut cn un l (l.drop k) = some r) ∧ Aside0 (Below W.heap.size W wr)) (fun i _ => l.length - (intOf i).toNat)
  case atStart => exact ⟨0, Nat.zero_le _, rfl, by simpa using H, ⟨Below.refl _ _⟩⟩
  case round =>
    obtain ⟨k, hk, rfl, HN, HB⟩ := hrel
    by_cases hlt : k < l.length
    · obtain ⟨ad, rfl, hcell⟩ := kKnd_at (Kd.C_below HR.out HB.out) k hlt
      have HM := Aside0.mk (show l.getD k 0 ∈ l by rw [List.getD_eq_getElem?_getD, List.getElem?_eq_getElem hlt]; exact List.getElem_mem _)
      have hd := List.drop_eq_getElem_cons hlt
      have hg : l[k] = l.getD k 0 := by simp [List.getD_eq_getElem?_getD, hlt]
      rw [hg] at hd
      have HN2 := HN.out
      rw [hd] at HN2
      clear hd hg HN
      have HD := Aside0.mk HN2
      clear HN2
      generalize l.getD k 0 = x at *
      obtain ⟨b, hb, HE0⟩ := Option.bind_eq_some_iff.mp HD.out
      have HE := Aside0.mk HE0
      clear HE0 HD
      obtain ⟨wo, rfl⟩ : ∃ wo : World, wo = wr := ⟨_, rfl⟩
      cases b with
      | false =>
        go_wp2_with fail
        refine (K1.out x _ false HM.out HB.out hb).mono ?_
        rintro e w2 ⟨rfl, hb2⟩
        have HB2 := Aside0.mk (below_step HB.out hb2)
        clear hb2
        go_wp2
        go_roundw
        case rel => exact ⟨k + 1, by omega, by go_num, ⟨by simpa using HE.out⟩, HB2⟩
        case measure => simp [intOf]; omega
      | true =>
        have HE1 := HE.out
        rw [if_pos rfl] at HE1
        obtain ⟨lst, hlst, HF0⟩ := Option.bind_eq_some_iff.mp HE1
        have HL := Aside0.mk hlst
        have HF := Aside0.mk HF0
        clear HE1 hlst HF0 HE
        go_wp2_with fail
        refine (K1.out x _ true HM.out HB.out hb).mono ?_
        rintro e w2 ⟨rfl, hb2⟩
        have HB2 := Aside0.mk (below_step HB.out hb2)
        clear hb2 hb hcell
        go_wp2
        go_loopw [10, 26] (fun lb j wr2 => ∃ m : Nat, m ≤ l.length ∧ j = .int .i64 m ∧ lb = .bool true ∧ Aside0 (nearIn cn un x (l.drop m) = some lst) ∧ Aside0 (Below W.heap.size W wr2)) (fun _ j _ => l.length - (intOf j).toNat)
        case atStart => exact ⟨0, Nat.zero_le _, rfl, rfl, by simpa using HL, HB2⟩
        case round =>
          obtain ⟨m, hm, rfl, rfl, HI, HB3⟩ := hrel
          by_cases hlt2 : m < l.length
          · obtain ⟨ad2, he2, hcell⟩ := kKnd_at (Kd.C_below HR.out HB3.out) m hlt2
            obtain rfl := Option.some.inj he2
            have HM2 := Aside0.mk (show l.getD m 0 ∈ l by rw [List.getD_eq_getElem?_getD, List.getElem?_eq_getElem hlt2]; exact List.getElem_mem _)
            have hd := List.drop_eq_getElem_cons hlt2
            have hg : l[m] = l.getD m 0 := by simp [List.getD_eq_getElem?_getD, hlt2]
            rw [hg] at hd
            have HN2 := HI.out
            rw [hd] at HN2
            clear hd hg HI he2
            obtain ⟨b2, hb2, HG0⟩ := Option.bind_eq_some_iff.mp HN2
            have HG := Aside0.mk HG0
            clear HN2 HG0
            generalize l.getD m 0 = y at *
            cases b2 with
            | false =>
              go_wp2_with fail
              refine (K1.out y _ false HM2.out HB3.out hb2).mono ?_
              rintro e w3 ⟨rfl, hb4⟩
              have HB4 := Aside0.mk (below_step HB3.out hb4)
              clear hb4
              go_wp2
              go_roundw
              case rel => exact ⟨m + 1, by omega, by go_num, rfl, ⟨by simpa using HG.out⟩, HB4⟩
              case measure => simp [intOf]; omega
            | true =>
              have HG1 := HG.out
              rw [if_pos rfl] at HG1
              obtain ⟨u, hu, HH0⟩ := Option.bind_eq_some_iff.mp HG1
              have HH := Aside0.mk HH0
              have HU := Aside0.mk hu
              clear HG1 HH0 HG hu
              go_wp2_with fail
              refine (K1.out y _ true HM2.out HB3.out hb2).mono ?_
              rintro e w3 ⟨rfl, hb4⟩
              have HB4 := Aside0.mk (below_step HB3.out hb4)
              clear hb4 hcell hb2
              go_wp2_with fail
              refine (K2.out x y _ u HM.out HM2.out HB4.out HU.out).mono ?_
              rintro e w4 ⟨rfl, hb5⟩
              have HB5 := Aside0.mk (below_step HB4.out hb5)
              clear hb5
              cases u with
              | true =>
                go_wp2
                go_roundw
                case rel => exact ⟨m + 1, by omega, by go_num, rfl, ⟨by simpa using HH.out⟩, HB5⟩
                case measure => simp [intOf]; omega
              | false =>
                have HZ := HF.out
                rw [show lst = false from (Option.some.inj (by simpa using HH.out)).symm] at HZ
                have HZ2 := Aside0.mk (show nearOut cn un l (l.drop (k + 1)) = some r by simpa using HZ)
                clear HZ
                go_wp2
                go_roundw
                case rel => exact ⟨k + 1, by omega, by go_num, HZ2, HB5⟩
                case measure => simp [intOf]; omega
          · have hm2 : m = l.length := by omega
            have HZ := HF.out
            have hl2 := HI.out
            rw [hm2, List.drop_length] at hl2
            rw [show lst = true from (Option.some.inj hl2).symm, if_pos rfl] at HZ
            have HZ2 := Aside0.mk (Option.some.inj HZ)
            clear HZ hl2 hm2
            go_wp2
            go_ret2
            exact ⟨by rw [← HZ2.out]; rfl, HB3.out⟩
    · have hk2 : k = l.length := by omega
      have HZ := HN.out
      rw [hk2, List.drop_length] at HZ
      have HZ2 := Aside0.mk (Option.some.inj HZ)
      clear HZ hk2
      go_wp2
      go_ret2
      exact ⟨by rw [← HZ2.out]; rfl, HB.out⟩

end Go.Proofs.Ytfcbeodndplenaa.K
