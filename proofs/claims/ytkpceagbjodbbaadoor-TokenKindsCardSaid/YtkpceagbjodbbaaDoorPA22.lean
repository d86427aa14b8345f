-- Printed by a program of this session (wip/xprint.py) for this claim: Lean checks it.
import Derived.Test.YtkpceagbjodbbaaDoorPA0
namespace Go.Proofs.YtkpceagbjodbbaaDoor.PA
open Go.RowKit Go.Proofs.YtkpceagbjodbbaaDoor.Ext Go.Proofs.YtkpceagbjodbbaaDoorW.PrintWords Go.Proofs.YtkpceagbjodbbaaDoorW.PrintLast Go.Proofs.YtkpceagbjodbbaaDoorW.PrintMore
attribute [local go_sem] max2_int min2_int max_two min_two max_three min_three max_four min_four   -- for this text's walks alone
set_option linter.unusedVariables false
set_option linter.unusedSimpArgs false

/-! ### scholiastref02_Precedence: function 29 -/
mutual
def scholiastref02_Precedence.j0 : Nat → Int → Bool → Option (Int)
  | 0, _, _ => none
  | k + 1, x3, x8 => if x8 = true then (some 3) else (if x3 = 20 then (scholiastref02_Precedence.j1 k x3 (x3 == 20)) else (if x3 = 21 then (scholiastref02_Precedence.j1 k x3 (x3 == 21)) else (if x3 = 26 then (scholiastref02_Precedence.j1 k x3 (x3 == 26)) else (scholiastref02_Precedence.j1 k x3 (x3 == 27)))))
def scholiastref02_Precedence.j1 : Nat → Int → Bool → Option (Int)
  | 0, _, _ => none
  | k + 1, x3, x15 => if x15 = true then (some 4) else (if x3 = 22 then (some 5) else (if x3 = 23 then (some 5) else (if x3 = 24 then (some 5) else (if x3 = 28 then (some 5) else (if x3 = 29 then (some 5) else (if x3 = 25 then (some 5) else (if x3 = 30 then (some 5) else (some 0))))))))
end
def scholiastref02_Precedence.f (k : Nat) (a0 : Int) : Option (Int) := if a0 = 43 then (some 1) else (if a0 = 42 then (some 2) else (if a0 = 46 then (scholiastref02_Precedence.j0 k a0 (a0 == 46)) else (if a0 = 52 then (scholiastref02_Precedence.j0 k a0 (a0 == 52)) else (if a0 = 47 then (scholiastref02_Precedence.j0 k a0 (a0 == 47)) else (if a0 = 53 then (scholiastref02_Precedence.j0 k a0 (a0 == 53)) else (if a0 = 48 then (scholiastref02_Precedence.j0 k a0 (a0 == 48)) else (scholiastref02_Precedence.j0 k a0 (a0 == 54))))))))
theorem scholiastref02_Precedence.mono_l : ∀ k, (∀ y0 y1, LeO (scholiastref02_Precedence.j0 k y0 y1) (scholiastref02_Precedence.j0 (k + 1) y0 y1)) ∧ (∀ y0 y1, LeO (scholiastref02_Precedence.j1 k y0 y1) (scholiastref02_Precedence.j1 (k + 1) y0 y1))
  | 0 => ⟨fun _ _ r h => by simp [scholiastref02_Precedence.j0] at h, fun _ _ r h => by simp [scholiastref02_Precedence.j1] at h⟩
  | k + 1 => by
    obtain ⟨ih0, ih1⟩ := scholiastref02_Precedence.mono_l k
    refine ⟨?_, ?_⟩
    · intro y0 y1
      unfold scholiastref02_Precedence.j0
      repeat' first
      | (with_reducible exact ih0 _ _)
      | (with_reducible exact ih1 _ _)
      | (with_reducible exact LeO.refl _)
      | (with_reducible exact LeO.none _)
      | (with_reducible refine LeO.ite ?_ ?_)
      | (with_reducible refine LeO.bind ?_ (fun _ => ?_))
      | exact ih0 _ _
      | exact ih1 _ _
      | exact LeO.none _
      | refine LeO.ite ?_ ?_
      | refine LeO.bind ?_ (fun _ => ?_)
    · intro y0 y1
      unfold scholiastref02_Precedence.j1
      repeat' first
      | (with_reducible exact ih0 _ _)
      | (with_reducible exact ih1 _ _)
      | (with_reducible exact LeO.refl _)
      | (with_reducible exact LeO.none _)
      | (with_reducible refine LeO.ite ?_ ?_)
      | (with_reducible refine LeO.bind ?_ (fun _ => ?_))
      | exact ih0 _ _
      | exact ih1 _ _
      | exact LeO.none _
      | refine LeO.ite ?_ ?_
      | refine LeO.bind ?_ (fun _ => ?_)
theorem scholiastref02_Precedence.mono : ∀ a0 k, LeO (scholiastref02_Precedence.f k a0) (scholiastref02_Precedence.f (k + 1) a0) := by
  intro a0 k
  obtain ⟨ih0, ih1⟩ := scholiastref02_Precedence.mono_l k
  unfold scholiastref02_Precedence.f
  repeat' first
      | (with_reducible exact ih0 _ _)
      | (with_reducible exact ih1 _ _)
      | (with_reducible exact LeO.refl _)
      | (with_reducible exact LeO.none _)
      | (with_reducible refine LeO.ite ?_ ?_)
      | (with_reducible refine LeO.bind ?_ (fun _ => ?_))
      | exact ih0 _ _
      | exact ih1 _ _
      | exact LeO.none _
      | refine LeO.ite ?_ ?_
      | refine LeO.bind ?_ (fun _ => ?_)
set_option maxHeartbeats 8000000 in
set_option maxRecDepth 100000 in
theorem scholiastref02_Precedence.calls (k : Nat) (a0 : Int) (r : Int) (w : World) (h : scholiastref02_Precedence.f k a0 = some r) :
    Calls Tryd.prog 29 #[.int .i64 a0] w fun e w' => e = .returned (.int .i64 r) ∧ Drawn0 w w' := by
  have H : (if a0 = 43 then (some 1) else (if a0 = 42 then (some 2) else (if a0 = 46 then (scholiastref02_Precedence.j0 k a0 (a0 == 46)) else (if a0 = 52 then (scholiastref02_Precedence.j0 k a0 (a0 == 52)) else (if a0 = 47 then (scholiastref02_Precedence.j0 k a0 (a0 == 47)) else (if a0 = 53 then (scholiastref02_Precedence.j0 k a0 (a0 == 53)) else (if a0 = 48 then (scholiastref02_Precedence.j0 k a0 (a0 == 48)) else (scholiastref02_Precedence.j0 k a0 (a0 == 54))))))))) = some r := h
  clear h
  by_cases c2 : a0 = 43
  · rw [if_pos c2] at H
    have c2b0 : (a0 == 43) = true := beq_iff_eq.mpr c2
    have c2b1 : (a0 != 43) = false := bne_eq_false_iff_eq.mpr c2
    clear c2
    obtain rfl := Option.some.inj H
    go_enter Tryd.func29, Tryd.ntmps29
    go_wp2
    go_ret
    exact ⟨by first | rfl | (simp; done) | (simp [*]; done) | (simp [wrap64]; done) | (simp [isEmpty_bne]; done), by repeat (first | exact Drawn0.refl _ | apply Drawn0.step)⟩
  · rw [if_neg c2] at H
    have c2b0 : (a0 == 43) = false := beq_eq_false_iff_ne.mpr c2
    have c2b1 : (a0 != 43) = true := bne_iff_ne.mpr c2
    by_cases c3 : a0 = 42
    · rw [if_pos c3] at H
      have c3b0 : (a0 == 42) = true := beq_iff_eq.mpr c3
      have c3b1 : (a0 != 42) = false := bne_eq_false_iff_eq.mpr c3
      clear c3
      obtain rfl := Option.some.inj H
      go_enter Tryd.func29, Tryd.ntmps29
      go_wp2
      go_ret
      exact ⟨by first | rfl | (simp; done) | (simp [*]; done) | (simp [wrap64]; done) | (simp [isEmpty_bne]; done), by repeat (first | exact Drawn0.refl _ | apply Drawn0.step)⟩
    · rw [if_neg c3] at H
      have c3b0 : (a0 == 42) = false := beq_eq_false_iff_ne.mpr c3
      have c3b1 : (a0 != 42) = true := bne_iff_ne.mpr c3
      have HC4 := Aside0.mk H
      clear H
      go_enter Tryd.func29, Tryd.ntmps29
      go_upto_if 8 with (fail)
      go_cut [8] (fun v8 wc => ∃ (kq : Nat) (x8_3 : Bool), v8 = .bool x8_3 ∧ Aside0 (scholiastref02_Precedence.j0 kq a0 x8_3 = some r) ∧ Aside0 (kq ≤ k) ∧ Drawn0 w wc)
      case first =>
        have H := HC4.out
        clear HC4
        by_cases c5 : a0 = 46
        · rw [if_pos c5] at H
          have c5b0 : (a0 == 46) = true := beq_iff_eq.mpr c5
          have c5b1 : (a0 != 46) = false := bne_eq_false_iff_eq.mpr c5
          clear c5
          (first | rw [c5b0] | (simp only [i64_w, i32_w]; rw [c5b0]) | skip)
          have H' := Aside0.mk H
          clear H
          go_wp2
          go_meet
          case rel => exact ⟨_, ((a0 == 46)), (by first | rfl | (simp; done) | (simp [*]; done) | (simp [wrap64]; done) | (simp [isEmpty_bne]; done)), H', ⟨by first | omega | exact Nat.le_refl _⟩, by repeat (first | exact Drawn0.refl _ | apply Drawn0.step)⟩
        · rw [if_neg c5] at H
          have c5b0 : (a0 == 46) = false := beq_eq_false_iff_ne.mpr c5
          have c5b1 : (a0 != 46) = true := bne_iff_ne.mpr c5
          (first | rw [c5b0] | (simp only [i64_w, i32_w]; rw [c5b0]) | skip)
          by_cases c6 : a0 = 52
          · rw [if_pos c6] at H
            have c6b0 : (a0 == 52) = true := beq_iff_eq.mpr c6
            have c6b1 : (a0 != 52) = false := bne_eq_false_iff_eq.mpr c6
            clear c6
            have H' := Aside0.mk H
            clear H
            go_wp2
            go_meet
            case rel => exact ⟨_, ((a0 == 52)), (by first | rfl | (simp; done) | (simp [*]; done) | (simp [wrap64]; done) | (simp [isEmpty_bne]; done)), H', ⟨by first | omega | exact Nat.le_refl _⟩, by repeat (first | exact Drawn0.refl _ | apply Drawn0.step)⟩
          · rw [if_neg c6] at H
            have c6b0 : (a0 == 52) = false := beq_eq_false_iff_ne.mpr c6
            have c6b1 : (a0 != 52) = true := bne_iff_ne.mpr c6
            by_cases c7 : a0 = 47
            · rw [if_pos c7] at H
              have c7b0 : (a0 == 47) = true := beq_iff_eq.mpr c7
              have c7b1 : (a0 != 47) = false := bne_eq_false_iff_eq.mpr c7
              clear c7
              have H' := Aside0.mk H
              clear H
              go_wp2
              go_meet
              case rel => exact ⟨_, ((a0 == 47)), (by first | rfl | (simp; done) | (simp [*]; done) | (simp [wrap64]; done) | (simp [isEmpty_bne]; done)), H', ⟨by first | omega | exact Nat.le_refl _⟩, by repeat (first | exact Drawn0.refl _ | apply Drawn0.step)⟩
            · rw [if_neg c7] at H
              have c7b0 : (a0 == 47) = false := beq_eq_false_iff_ne.mpr c7
              have c7b1 : (a0 != 47) = true := bne_iff_ne.mpr c7
              by_cases c8 : a0 = 53
              · rw [if_pos c8] at H
                have c8b0 : (a0 == 53) = true := beq_iff_eq.mpr c8
                have c8b1 : (a0 != 53) = false := bne_eq_false_iff_eq.mpr c8
                clear c8
                have H' := Aside0.mk H
                clear H
                go_wp2
                go_meet
                case rel => exact ⟨_, ((a0 == 53)), (by first | rfl | (simp; done) | (simp [*]; done) | (simp [wrap64]; done) | (simp [isEmpty_bne]; done)), H', ⟨by first | omega | exact Nat.le_refl _⟩, by repeat (first | exact Drawn0.refl _ | apply Drawn0.step)⟩
              · rw [if_neg c8] at H
                have c8b0 : (a0 == 53) = false := beq_eq_false_iff_ne.mpr c8
                have c8b1 : (a0 != 53) = true := bne_iff_ne.mpr c8
                by_cases c9 : a0 = 48
                · rw [if_pos c9] at H
                  have c9b0 : (a0 == 48) = true := beq_iff_eq.mpr c9
                  have c9b1 : (a0 != 48) = false := bne_eq_false_iff_eq.mpr c9
                  clear c9
                  have H' := Aside0.mk H
                  clear H
                  go_wp2
                  go_meet
                  case rel => exact ⟨_, ((a0 == 48)), (by first | rfl | (simp; done) | (simp [*]; done) | (simp [wrap64]; done) | (simp [isEmpty_bne]; done)), H', ⟨by first | omega | exact Nat.le_refl _⟩, by repeat (first | exact Drawn0.refl _ | apply Drawn0.step)⟩
                · rw [if_neg c9] at H
                  have c9b0 : (a0 == 48) = false := beq_eq_false_iff_ne.mpr c9
                  have c9b1 : (a0 != 48) = true := bne_iff_ne.mpr c9
                  have H' := Aside0.mk H
                  clear H
                  go_wp2
                  go_meet
                  case rel => exact ⟨_, ((a0 == 54)), (by first | rfl | (simp; done) | (simp [*]; done) | (simp [wrap64]; done) | (simp [isEmpty_bne]; done)), H', ⟨by first | omega | exact Nat.le_refl _⟩, by repeat (first | exact Drawn0.refl _ | apply Drawn0.step)⟩
      case rest =>
        clear HC4
        try clear c2
        try clear c2b0
        try clear c2b1
        try clear p2
        try clear c3
        try clear c3b0
        try clear c3b1
        try clear c5
        try clear c5b0
        try clear c5b1
        try clear c6
        try clear c6b0
        try clear c6b1
        try clear p6
        try clear c7
        try clear c7b0
        try clear c7b1
        try clear c8
        try clear c8b0
        try clear c8b1
        try clear c9
        try clear c9b0
        try clear c9b1
        obtain ⟨kq, x8_3, rfl, HA, HJ3, ⟨mc3, rfl⟩⟩ := hcut
        cases kq with
        | zero => exact absurd HA.out (by simp [scholiastref02_Precedence.j0])
        | succ kj3 =>
          have H := HA.out
          clear HA
          simp only [scholiastref02_Precedence.j0] at H
          by_cases c10 : x8_3 = true
          · subst c10
            have H1 : (some 3) = some r := by rw [if_pos rfl] at H; exact H
            clear H
            have H := H1
            clear H1
            obtain rfl := Option.some.inj H
            go_wp2
            go_ret
            exact ⟨by first | rfl | (simp; done) | (simp [*]; done) | (simp [wrap64]; done) | (simp [isEmpty_bne]; done), by repeat (first | exact Drawn0.refl _ | apply Drawn0.step)⟩
          · replace c10 := Bool.eq_false_iff.mpr c10
            subst c10
            have H1 : (if a0 = 20 then (scholiastref02_Precedence.j1 kj3 a0 (a0 == 20)) else (if a0 = 21 then (scholiastref02_Precedence.j1 kj3 a0 (a0 == 21)) else (if a0 = 26 then (scholiastref02_Precedence.j1 kj3 a0 (a0 == 26)) else (scholiastref02_Precedence.j1 kj3 a0 (a0 == 27))))) = some r := by rw [if_neg (show ¬ (false = true) by decide)] at H; exact H
            clear H
            have H := H1
            clear H1
            have HC11 := Aside0.mk H
            clear H
            go_upto_if 15 with (fail)
            go_cut [15] (fun v15 wc => ∃ (kq : Nat) (x15_10 : Bool), v15 = .bool x15_10 ∧ Aside0 (scholiastref02_Precedence.j1 kq a0 x15_10 = some r) ∧ Aside0 (kq ≤ kj3) ∧ Drawn0 w wc)
            case first =>
              have H := HC11.out
              clear HC11
              by_cases c12 : a0 = 20
              · rw [if_pos c12] at H
                have c12b0 : (a0 == 20) = true := beq_iff_eq.mpr c12
                have c12b1 : (a0 != 20) = false := bne_eq_false_iff_eq.mpr c12
                clear c12
                (first | rw [c12b0] | (simp only [i64_w, i32_w]; rw [c12b0]) | skip)
                have H' := Aside0.mk H
                clear H
                go_wp2
                go_meet
                case rel => exact ⟨_, ((a0 == 20)), (by first | rfl | (simp; done) | (simp [*]; done) | (simp [wrap64]; done) | (simp [isEmpty_bne]; done)), H', ⟨by have := HJ3.out; first | omega | exact Nat.le_refl _⟩, by repeat (first | exact Drawn0.refl _ | apply Drawn0.step)⟩
              · rw [if_neg c12] at H
                have c12b0 : (a0 == 20) = false := beq_eq_false_iff_ne.mpr c12
                have c12b1 : (a0 != 20) = true := bne_iff_ne.mpr c12
                (first | rw [c12b0] | (simp only [i64_w, i32_w]; rw [c12b0]) | skip)
                by_cases c13 : a0 = 21
                · rw [if_pos c13] at H
                  have c13b0 : (a0 == 21) = true := beq_iff_eq.mpr c13
                  have c13b1 : (a0 != 21) = false := bne_eq_false_iff_eq.mpr c13
                  clear c13
                  have H' := Aside0.mk H
                  clear H
                  go_wp2
                  go_meet
                  case rel => exact ⟨_, ((a0 == 21)), (by first | rfl | (simp; done) | (simp [*]; done) | (simp [wrap64]; done) | (simp [isEmpty_bne]; done)), H', ⟨by have := HJ3.out; first | omega | exact Nat.le_refl _⟩, by repeat (first | exact Drawn0.refl _ | apply Drawn0.step)⟩
                · rw [if_neg c13] at H
                  have c13b0 : (a0 == 21) = false := beq_eq_false_iff_ne.mpr c13
                  have c13b1 : (a0 != 21) = true := bne_iff_ne.mpr c13
                  by_cases c14 : a0 = 26
                  · rw [if_pos c14] at H
                    have c14b0 : (a0 == 26) = true := beq_iff_eq.mpr c14
                    have c14b1 : (a0 != 26) = false := bne_eq_false_iff_eq.mpr c14
                    clear c14
                    have H' := Aside0.mk H
                    clear H
                    go_wp2
                    go_meet
                    case rel => exact ⟨_, ((a0 == 26)), (by first | rfl | (simp; done) | (simp [*]; done) | (simp [wrap64]; done) | (simp [isEmpty_bne]; done)), H', ⟨by have := HJ3.out; first | omega | exact Nat.le_refl _⟩, by repeat (first | exact Drawn0.refl _ | apply Drawn0.step)⟩
                  · rw [if_neg c14] at H
                    have c14b0 : (a0 == 26) = false := beq_eq_false_iff_ne.mpr c14
                    have c14b1 : (a0 != 26) = true := bne_iff_ne.mpr c14
                    have H' := Aside0.mk H
                    clear H
                    go_wp2
                    go_meet
                    case rel => exact ⟨_, ((a0 == 27)), (by first | rfl | (simp; done) | (simp [*]; done) | (simp [wrap64]; done) | (simp [isEmpty_bne]; done)), H', ⟨by have := HJ3.out; first | omega | exact Nat.le_refl _⟩, by repeat (first | exact Drawn0.refl _ | apply Drawn0.step)⟩
            case rest =>
              clear HC11
              try clear c1
              try clear c2
              try clear c2b0
              try clear c2b1
              try clear p2
              try clear c3
              try clear c3b0
              try clear c3b1
              try clear c5
              try clear c5b0
              try clear c5b1
              try clear c6
              try clear c6b0
              try clear c6b1
              try clear p6
              try clear c7
              try clear c7b0
              try clear c7b1
              try clear c8
              try clear c8b0
              try clear c8b1
              try clear c9
              try clear c9b0
              try clear c9b1
              try clear c10
              try clear c12
              try clear c12b0
              try clear c12b1
              try clear c13
              try clear c13b0
              try clear c13b1
              try clear c14
              try clear c14b0
              try clear c14b1
              try clear p2
              try clear p6
              obtain ⟨kq, x15_10, rfl, HA, HJ10, ⟨mc10, rfl⟩⟩ := hcut
              cases kq with
              | zero => exact absurd HA.out (by simp [scholiastref02_Precedence.j1])
              | succ kj10 =>
                have H := HA.out
                clear HA
                simp only [scholiastref02_Precedence.j1] at H
                by_cases c15 : x15_10 = true
                · subst c15
                  have H1 : (some 4) = some r := by rw [if_pos rfl] at H; exact H
                  clear H
                  have H := H1
                  clear H1
                  obtain rfl := Option.some.inj H
                  go_wp2
                  go_ret
                  exact ⟨by first | rfl | (simp; done) | (simp [*]; done) | (simp [wrap64]; done) | (simp [isEmpty_bne]; done), by repeat (first | exact Drawn0.refl _ | apply Drawn0.step)⟩
                · replace c15 := Bool.eq_false_iff.mpr c15
                  subst c15
                  have H1 : (if a0 = 22 then (some 5) else (if a0 = 23 then (some 5) else (if a0 = 24 then (some 5) else (if a0 = 28 then (some 5) else (if a0 = 29 then (some 5) else (if a0 = 25 then (some 5) else (if a0 = 30 then (some 5) else (some 0)))))))) = some r := by rw [if_neg (show ¬ (false = true) by decide)] at H; exact H
                  clear H
                  have H := H1
                  clear H1
                  by_cases c16 : a0 = 22
                  · rw [if_pos c16] at H
                    have c16b0 : (a0 == 22) = true := beq_iff_eq.mpr c16
                    have c16b1 : (a0 != 22) = false := bne_eq_false_iff_eq.mpr c16
                    clear c16
                    obtain rfl := Option.some.inj H
                    go_wp2
                    go_ret
                    exact ⟨by first | rfl | (simp; done) | (simp [*]; done) | (simp [wrap64]; done) | (simp [isEmpty_bne]; done), by repeat (first | exact Drawn0.refl _ | apply Drawn0.step)⟩
                  · rw [if_neg c16] at H
                    have c16b0 : (a0 == 22) = false := beq_eq_false_iff_ne.mpr c16
                    have c16b1 : (a0 != 22) = true := bne_iff_ne.mpr c16
                    by_cases c17 : a0 = 23
                    · rw [if_pos c17] at H
                      have c17b0 : (a0 == 23) = true := beq_iff_eq.mpr c17
                      have c17b1 : (a0 != 23) = false := bne_eq_false_iff_eq.mpr c17
                      clear c17
                      obtain rfl := Option.some.inj H
                      go_wp2
                      go_ret
                      exact ⟨by first | rfl | (simp; done) | (simp [*]; done) | (simp [wrap64]; done) | (simp [isEmpty_bne]; done), by repeat (first | exact Drawn0.refl _ | apply Drawn0.step)⟩
                    · rw [if_neg c17] at H
                      have c17b0 : (a0 == 23) = false := beq_eq_false_iff_ne.mpr c17
                      have c17b1 : (a0 != 23) = true := bne_iff_ne.mpr c17
                      by_cases c18 : a0 = 24
                      · rw [if_pos c18] at H
                        have c18b0 : (a0 == 24) = true := beq_iff_eq.mpr c18
                        have c18b1 : (a0 != 24) = false := bne_eq_false_iff_eq.mpr c18
                        clear c18
                        obtain rfl := Option.some.inj H
                        go_wp2
                        go_ret
                        exact ⟨by first | rfl | (simp; done) | (simp [*]; done) | (simp [wrap64]; done) | (simp [isEmpty_bne]; done), by repeat (first | exact Drawn0.refl _ | apply Drawn0.step)⟩
                      · rw [if_neg c18] at H
                        have c18b0 : (a0 == 24) = false := beq_eq_false_iff_ne.mpr c18
                        have c18b1 : (a0 != 24) = true := bne_iff_ne.mpr c18
                        by_cases c19 : a0 = 28
                        · rw [if_pos c19] at H
                          have c19b0 : (a0 == 28) = true := beq_iff_eq.mpr c19
                          have c19b1 : (a0 != 28) = false := bne_eq_false_iff_eq.mpr c19
                          clear c19
                          obtain rfl := Option.some.inj H
                          go_wp2
                          go_ret
                          exact ⟨by first | rfl | (simp; done) | (simp [*]; done) | (simp [wrap64]; done) | (simp [isEmpty_bne]; done), by repeat (first | exact Drawn0.refl _ | apply Drawn0.step)⟩
                        · rw [if_neg c19] at H
                          have c19b0 : (a0 == 28) = false := beq_eq_false_iff_ne.mpr c19
                          have c19b1 : (a0 != 28) = true := bne_iff_ne.mpr c19
                          by_cases c20 : a0 = 29
                          · rw [if_pos c20] at H
                            have c20b0 : (a0 == 29) = true := beq_iff_eq.mpr c20
                            have c20b1 : (a0 != 29) = false := bne_eq_false_iff_eq.mpr c20
                            clear c20
                            obtain rfl := Option.some.inj H
                            go_wp2
                            go_ret
                            exact ⟨by first | rfl | (simp; done) | (simp [*]; done) | (simp [wrap64]; done) | (simp [isEmpty_bne]; done), by repeat (first | exact Drawn0.refl _ | apply Drawn0.step)⟩
                          · rw [if_neg c20] at H
                            have c20b0 : (a0 == 29) = false := beq_eq_false_iff_ne.mpr c20
                            have c20b1 : (a0 != 29) = true := bne_iff_ne.mpr c20
                            by_cases c21 : a0 = 25
                            · rw [if_pos c21] at H
                              have c21b0 : (a0 == 25) = true := beq_iff_eq.mpr c21
                              have c21b1 : (a0 != 25) = false := bne_eq_false_iff_eq.mpr c21
                              clear c21
                              obtain rfl := Option.some.inj H
                              go_wp2
                              go_ret
                              exact ⟨by first | rfl | (simp; done) | (simp [*]; done) | (simp [wrap64]; done) | (simp [isEmpty_bne]; done), by repeat (first | exact Drawn0.refl _ | apply Drawn0.step)⟩
                            · rw [if_neg c21] at H
                              have c21b0 : (a0 == 25) = false := beq_eq_false_iff_ne.mpr c21
                              have c21b1 : (a0 != 25) = true := bne_iff_ne.mpr c21
                              by_cases c22 : a0 = 30
                              · rw [if_pos c22] at H
                                have c22b0 : (a0 == 30) = true := beq_iff_eq.mpr c22
                                have c22b1 : (a0 != 30) = false := bne_eq_false_iff_eq.mpr c22
                                clear c22
                                obtain rfl := Option.some.inj H
                                go_wp2
                                go_ret
                                exact ⟨by first | rfl | (simp; done) | (simp [*]; done) | (simp [wrap64]; done) | (simp [isEmpty_bne]; done), by repeat (first | exact Drawn0.refl _ | apply Drawn0.step)⟩
                              · rw [if_neg c22] at H
                                have c22b0 : (a0 == 30) = false := beq_eq_false_iff_ne.mpr c22
                                have c22b1 : (a0 != 30) = true := bne_iff_ne.mpr c22
                                obtain rfl := Option.some.inj H
                                go_wp2
                                go_ret
                                exact ⟨by first | rfl | (simp; done) | (simp [*]; done) | (simp [wrap64]; done) | (simp [isEmpty_bne]; done), by repeat (first | exact Drawn0.refl _ | apply Drawn0.step)⟩

end Go.Proofs.YtkpceagbjodbbaaDoor.PA
