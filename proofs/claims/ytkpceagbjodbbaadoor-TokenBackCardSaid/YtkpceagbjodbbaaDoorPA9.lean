-- Printed by a program of this session (wip/xprint.py) for this claim: Lean checks it.
import Derived.Test.YtkpceagbjodbbaaDoorPA0
namespace Go.Proofs.YtkpceagbjodbbaaDoor.PA
open Go.RowKit Go.Proofs.YtkpceagbjodbbaaDoor.Ext Go.Proofs.YtkpceagbjodbbaaDoorW.PrintWords Go.Proofs.YtkpceagbjodbbaaDoorW.PrintLast Go.Proofs.YtkpceagbjodbbaaDoorW.PrintMore
attribute [local go_sem] max2_int min2_int max_two min_two max_three min_three max_four min_four   -- for this text's walks alone
set_option linter.unusedVariables false
set_option linter.unusedSimpArgs false

/-! ### token_Precedence: function 23 -/
mutual
def token_Precedence.j0 : Nat → Int → Int → Bool → Option (Int)
  | 0, _, _, _ => none
  | k + 1, x3, x4, x5 => if x5 = true then (some (wrap64 ((wrap64 ((wrap64 ((wrap64 ((wrap64 (x3 + 1)) + 1)) + 1)) + 1)) + 1))) else (if x4 = 20 then (token_Precedence.j1 k x3 x4 (x4 == 20)) else (if x4 = 21 then (token_Precedence.j1 k x3 x4 (x4 == 21)) else (if x4 = 26 then (token_Precedence.j1 k x3 x4 (x4 == 26)) else (token_Precedence.j1 k x3 x4 (x4 == 27)))))
def token_Precedence.j1 : Nat → Int → Int → Bool → Option (Int)
  | 0, _, _, _ => none
  | k + 1, x3, x4, x13 => if x13 = true then (some (wrap64 ((wrap64 ((wrap64 ((wrap64 (x3 + 1)) + 1)) + 1)) + 1))) else (if x4 = 46 then (token_Precedence.j2 k x3 x4 (x4 == 46)) else (if x4 = 52 then (token_Precedence.j2 k x3 x4 (x4 == 52)) else (if x4 = 47 then (token_Precedence.j2 k x3 x4 (x4 == 47)) else (if x4 = 53 then (token_Precedence.j2 k x3 x4 (x4 == 53)) else (if x4 = 48 then (token_Precedence.j2 k x3 x4 (x4 == 48)) else (token_Precedence.j2 k x3 x4 (x4 == 54)))))))
def token_Precedence.j2 : Nat → Int → Int → Bool → Option (Int)
  | 0, _, _, _ => none
  | k + 1, x3, x4, x18 => if x18 = true then (some (wrap64 ((wrap64 ((wrap64 (x3 + 1)) + 1)) + 1))) else (if x4 = 42 then (some (wrap64 ((wrap64 (x3 + 1)) + 1))) else (if x4 = 43 then (some (wrap64 (x3 + 1))) else (some x3)))
end
def token_Precedence.f (k : Nat) (a0 : Int) : Option (Int) := if a0 = 22 then (token_Precedence.j0 k 0 a0 (a0 == 22)) else (if a0 = 23 then (token_Precedence.j0 k 0 a0 (a0 == 23)) else (if a0 = 24 then (token_Precedence.j0 k 0 a0 (a0 == 24)) else (if a0 = 28 then (token_Precedence.j0 k 0 a0 (a0 == 28)) else (if a0 = 29 then (token_Precedence.j0 k 0 a0 (a0 == 29)) else (if a0 = 25 then (token_Precedence.j0 k 0 a0 (a0 == 25)) else (token_Precedence.j0 k 0 a0 (a0 == 30)))))))
theorem token_Precedence.mono_l : ∀ k, (∀ y0 y1 y2, LeO (token_Precedence.j0 k y0 y1 y2) (token_Precedence.j0 (k + 1) y0 y1 y2)) ∧ (∀ y0 y1 y2, LeO (token_Precedence.j1 k y0 y1 y2) (token_Precedence.j1 (k + 1) y0 y1 y2)) ∧ (∀ y0 y1 y2, LeO (token_Precedence.j2 k y0 y1 y2) (token_Precedence.j2 (k + 1) y0 y1 y2))
  | 0 => ⟨fun _ _ _ r h => by simp [token_Precedence.j0] at h, fun _ _ _ r h => by simp [token_Precedence.j1] at h, fun _ _ _ r h => by simp [token_Precedence.j2] at h⟩
  | k + 1 => by
    obtain ⟨ih0, ih1, ih2⟩ := token_Precedence.mono_l k
    refine ⟨?_, ?_, ?_⟩
    · intro y0 y1 y2
      unfold token_Precedence.j0
      repeat' first
      | (with_reducible exact ih0 _ _ _)
      | (with_reducible exact ih1 _ _ _)
      | (with_reducible exact ih2 _ _ _)
      | (with_reducible exact LeO.refl _)
      | (with_reducible exact LeO.none _)
      | (with_reducible refine LeO.ite ?_ ?_)
      | (with_reducible refine LeO.bind ?_ (fun _ => ?_))
      | exact ih0 _ _ _
      | exact ih1 _ _ _
      | exact ih2 _ _ _
      | exact LeO.none _
      | refine LeO.ite ?_ ?_
      | refine LeO.bind ?_ (fun _ => ?_)
    · intro y0 y1 y2
      unfold token_Precedence.j1
      repeat' first
      | (with_reducible exact ih0 _ _ _)
      | (with_reducible exact ih1 _ _ _)
      | (with_reducible exact ih2 _ _ _)
      | (with_reducible exact LeO.refl _)
      | (with_reducible exact LeO.none _)
      | (with_reducible refine LeO.ite ?_ ?_)
      | (with_reducible refine LeO.bind ?_ (fun _ => ?_))
      | exact ih0 _ _ _
      | exact ih1 _ _ _
      | exact ih2 _ _ _
      | exact LeO.none _
      | refine LeO.ite ?_ ?_
      | refine LeO.bind ?_ (fun _ => ?_)
    · intro y0 y1 y2
      unfold token_Precedence.j2
      repeat' first
      | (with_reducible exact ih0 _ _ _)
      | (with_reducible exact ih1 _ _ _)
      | (with_reducible exact ih2 _ _ _)
      | (with_reducible exact LeO.refl _)
      | (with_reducible exact LeO.none _)
      | (with_reducible refine LeO.ite ?_ ?_)
      | (with_reducible refine LeO.bind ?_ (fun _ => ?_))
      | exact ih0 _ _ _
      | exact ih1 _ _ _
      | exact ih2 _ _ _
      | exact LeO.none _
      | refine LeO.ite ?_ ?_
      | refine LeO.bind ?_ (fun _ => ?_)
theorem token_Precedence.mono : ∀ a0 k, LeO (token_Precedence.f k a0) (token_Precedence.f (k + 1) a0) := by
  intro a0 k
  obtain ⟨ih0, ih1, ih2⟩ := token_Precedence.mono_l k
  unfold token_Precedence.f
  repeat' first
      | (with_reducible exact ih0 _ _ _)
      | (with_reducible exact ih1 _ _ _)
      | (with_reducible exact ih2 _ _ _)
      | (with_reducible exact LeO.refl _)
      | (with_reducible exact LeO.none _)
      | (with_reducible refine LeO.ite ?_ ?_)
      | (with_reducible refine LeO.bind ?_ (fun _ => ?_))
      | exact ih0 _ _ _
      | exact ih1 _ _ _
      | exact ih2 _ _ _
      | exact LeO.none _
      | refine LeO.ite ?_ ?_
      | refine LeO.bind ?_ (fun _ => ?_)
set_option maxHeartbeats 8000000 in
set_option maxRecDepth 100000 in
theorem token_Precedence.calls (k : Nat) (a0 : Int) (r : Int) (w : World) (h : token_Precedence.f k a0 = some r) :
    Calls Tryd.prog 23 #[.int .i64 a0] w fun e w' => e = .returned (.int .i64 r) ∧ Drawn0 w w' := by
  have H : (if a0 = 22 then (token_Precedence.j0 k 0 a0 (a0 == 22)) else (if a0 = 23 then (token_Precedence.j0 k 0 a0 (a0 == 23)) else (if a0 = 24 then (token_Precedence.j0 k 0 a0 (a0 == 24)) else (if a0 = 28 then (token_Precedence.j0 k 0 a0 (a0 == 28)) else (if a0 = 29 then (token_Precedence.j0 k 0 a0 (a0 == 29)) else (if a0 = 25 then (token_Precedence.j0 k 0 a0 (a0 == 25)) else (token_Precedence.j0 k 0 a0 (a0 == 30)))))))) = some r := h
  clear h
  have HC2 := Aside0.mk H
  clear H
  go_enter Tryd.func23, Tryd.ntmps23
  go_upto_if 5 with (fail)
  go_cut [5] (fun v5 wc => ∃ (kq : Nat) (x5_1 : Bool), v5 = .bool x5_1 ∧ Aside0 (token_Precedence.j0 kq 0 a0 x5_1 = some r) ∧ Aside0 (kq ≤ k) ∧ Drawn0 w wc)
  case first =>
    have H := HC2.out
    clear HC2
    by_cases c3 : a0 = 22
    · rw [if_pos c3] at H
      have c3b0 : (a0 == 22) = true := beq_iff_eq.mpr c3
      have c3b1 : (a0 != 22) = false := bne_eq_false_iff_eq.mpr c3
      clear c3
      (first | rw [c3b0] | (simp only [i64_w, i32_w]; rw [c3b0]) | skip)
      have H' := Aside0.mk H
      clear H
      go_wp2
      go_meet
      case rel => exact ⟨_, ((a0 == 22)), (by first | rfl | (simp; done) | (simp [*]; done) | (simp [wrap64]; done) | (simp [isEmpty_bne]; done)), H', ⟨by first | omega | exact Nat.le_refl _⟩, by repeat (first | exact Drawn0.refl _ | apply Drawn0.step)⟩
    · rw [if_neg c3] at H
      have c3b0 : (a0 == 22) = false := beq_eq_false_iff_ne.mpr c3
      have c3b1 : (a0 != 22) = true := bne_iff_ne.mpr c3
      (first | rw [c3b0] | (simp only [i64_w, i32_w]; rw [c3b0]) | skip)
      by_cases c4 : a0 = 23
      · rw [if_pos c4] at H
        have c4b0 : (a0 == 23) = true := beq_iff_eq.mpr c4
        have c4b1 : (a0 != 23) = false := bne_eq_false_iff_eq.mpr c4
        clear c4
        have H' := Aside0.mk H
        clear H
        go_wp2
        go_meet
        case rel => exact ⟨_, ((a0 == 23)), (by first | rfl | (simp; done) | (simp [*]; done) | (simp [wrap64]; done) | (simp [isEmpty_bne]; done)), H', ⟨by first | omega | exact Nat.le_refl _⟩, by repeat (first | exact Drawn0.refl _ | apply Drawn0.step)⟩
      · rw [if_neg c4] at H
        have c4b0 : (a0 == 23) = false := beq_eq_false_iff_ne.mpr c4
        have c4b1 : (a0 != 23) = true := bne_iff_ne.mpr c4
        by_cases c5 : a0 = 24
        · rw [if_pos c5] at H
          have c5b0 : (a0 == 24) = true := beq_iff_eq.mpr c5
          have c5b1 : (a0 != 24) = false := bne_eq_false_iff_eq.mpr c5
          clear c5
          have H' := Aside0.mk H
          clear H
          go_wp2
          go_meet
          case rel => exact ⟨_, ((a0 == 24)), (by first | rfl | (simp; done) | (simp [*]; done) | (simp [wrap64]; done) | (simp [isEmpty_bne]; done)), H', ⟨by first | omega | exact Nat.le_refl _⟩, by repeat (first | exact Drawn0.refl _ | apply Drawn0.step)⟩
        · rw [if_neg c5] at H
          have c5b0 : (a0 == 24) = false := beq_eq_false_iff_ne.mpr c5
          have c5b1 : (a0 != 24) = true := bne_iff_ne.mpr c5
          by_cases c6 : a0 = 28
          · rw [if_pos c6] at H
            have c6b0 : (a0 == 28) = true := beq_iff_eq.mpr c6
            have c6b1 : (a0 != 28) = false := bne_eq_false_iff_eq.mpr c6
            clear c6
            have H' := Aside0.mk H
            clear H
            go_wp2
            go_meet
            case rel => exact ⟨_, ((a0 == 28)), (by first | rfl | (simp; done) | (simp [*]; done) | (simp [wrap64]; done) | (simp [isEmpty_bne]; done)), H', ⟨by first | omega | exact Nat.le_refl _⟩, by repeat (first | exact Drawn0.refl _ | apply Drawn0.step)⟩
          · rw [if_neg c6] at H
            have c6b0 : (a0 == 28) = false := beq_eq_false_iff_ne.mpr c6
            have c6b1 : (a0 != 28) = true := bne_iff_ne.mpr c6
            by_cases c7 : a0 = 29
            · rw [if_pos c7] at H
              have c7b0 : (a0 == 29) = true := beq_iff_eq.mpr c7
              have c7b1 : (a0 != 29) = false := bne_eq_false_iff_eq.mpr c7
              clear c7
              have H' := Aside0.mk H
              clear H
              go_wp2
              go_meet
              case rel => exact ⟨_, ((a0 == 29)), (by first | rfl | (simp; done) | (simp [*]; done) | (simp [wrap64]; done) | (simp [isEmpty_bne]; done)), H', ⟨by first | omega | exact Nat.le_refl _⟩, by repeat (first | exact Drawn0.refl _ | apply Drawn0.step)⟩
            · rw [if_neg c7] at H
              have c7b0 : (a0 == 29) = false := beq_eq_false_iff_ne.mpr c7
              have c7b1 : (a0 != 29) = true := bne_iff_ne.mpr c7
              by_cases c8 : a0 = 25
              · rw [if_pos c8] at H
                have c8b0 : (a0 == 25) = true := beq_iff_eq.mpr c8
                have c8b1 : (a0 != 25) = false := bne_eq_false_iff_eq.mpr c8
                clear c8
                have H' := Aside0.mk H
                clear H
                go_wp2
                go_meet
                case rel => exact ⟨_, ((a0 == 25)), (by first | rfl | (simp; done) | (simp [*]; done) | (simp [wrap64]; done) | (simp [isEmpty_bne]; done)), H', ⟨by first | omega | exact Nat.le_refl _⟩, by repeat (first | exact Drawn0.refl _ | apply Drawn0.step)⟩
              · rw [if_neg c8] at H
                have c8b0 : (a0 == 25) = false := beq_eq_false_iff_ne.mpr c8
                have c8b1 : (a0 != 25) = true := bne_iff_ne.mpr c8
                have H' := Aside0.mk H
                clear H
                go_wp2
                go_meet
                case rel => exact ⟨_, ((a0 == 30)), (by first | rfl | (simp; done) | (simp [*]; done) | (simp [wrap64]; done) | (simp [isEmpty_bne]; done)), H', ⟨by first | omega | exact Nat.le_refl _⟩, by repeat (first | exact Drawn0.refl _ | apply Drawn0.step)⟩
  case rest =>
    clear HC2
    try clear c2
    try clear p2
    try clear c3
    try clear c3b0
    try clear c3b1
    try clear c4
    try clear c4b0
    try clear c4b1
    try clear c5
    try clear c5b0
    try clear c5b1
    try clear c6
    try clear c6b0
    try clear c6b1
    try clear p6
    try clear c7
    try clear c7b0
    try clear c7b1
    try clear c8
    try clear c8b0
    try clear c8b1
    obtain ⟨kq, x5_1, rfl, HA, HJ1, ⟨mc1, rfl⟩⟩ := hcut
    cases kq with
    | zero => exact absurd HA.out (by simp [token_Precedence.j0])
    | succ kj1 =>
      have H := HA.out
      clear HA
      simp only [token_Precedence.j0] at H
      by_cases c9 : x5_1 = true
      · subst c9
        have H1 : (some (wrap64 ((wrap64 ((wrap64 ((wrap64 ((wrap64 (0 + 1)) + 1)) + 1)) + 1)) + 1))) = some r := by rw [if_pos rfl] at H; exact H
        clear H
        have H := H1
        clear H1
        obtain rfl := Option.some.inj H
        go_wp2
        go_ret
        exact ⟨by first | rfl | (simp; done) | (simp [*]; done) | (simp [wrap64]; done) | (simp [isEmpty_bne]; done), by repeat (first | exact Drawn0.refl _ | apply Drawn0.step)⟩
      · replace c9 := Bool.eq_false_iff.mpr c9
        subst c9
        have H1 : (if a0 = 20 then (token_Precedence.j1 kj1 0 a0 (a0 == 20)) else (if a0 = 21 then (token_Precedence.j1 kj1 0 a0 (a0 == 21)) else (if a0 = 26 then (token_Precedence.j1 kj1 0 a0 (a0 == 26)) else (token_Precedence.j1 kj1 0 a0 (a0 == 27))))) = some r := by rw [if_neg (show ¬ (false = true) by decide)] at H; exact H
        clear H
        have H := H1
        clear H1
        have HC10 := Aside0.mk H
        clear H
        go_upto_if 13 with (fail)
        go_cut [13] (fun v13 wc => ∃ (kq : Nat) (x13_9 : Bool), v13 = .bool x13_9 ∧ Aside0 (token_Precedence.j1 kq 0 a0 x13_9 = some r) ∧ Aside0 (kq ≤ kj1) ∧ Drawn0 w wc)
        case first =>
          have H := HC10.out
          clear HC10
          by_cases c11 : a0 = 20
          · rw [if_pos c11] at H
            have c11b0 : (a0 == 20) = true := beq_iff_eq.mpr c11
            have c11b1 : (a0 != 20) = false := bne_eq_false_iff_eq.mpr c11
            clear c11
            (first | rw [c11b0] | (simp only [i64_w, i32_w]; rw [c11b0]) | skip)
            have H' := Aside0.mk H
            clear H
            go_wp2
            go_meet
            case rel => exact ⟨_, ((a0 == 20)), (by first | rfl | (simp; done) | (simp [*]; done) | (simp [wrap64]; done) | (simp [isEmpty_bne]; done)), H', ⟨by have := HJ1.out; first | omega | exact Nat.le_refl _⟩, by repeat (first | exact Drawn0.refl _ | apply Drawn0.step)⟩
          · rw [if_neg c11] at H
            have c11b0 : (a0 == 20) = false := beq_eq_false_iff_ne.mpr c11
            have c11b1 : (a0 != 20) = true := bne_iff_ne.mpr c11
            (first | rw [c11b0] | (simp only [i64_w, i32_w]; rw [c11b0]) | skip)
            by_cases c12 : a0 = 21
            · rw [if_pos c12] at H
              have c12b0 : (a0 == 21) = true := beq_iff_eq.mpr c12
              have c12b1 : (a0 != 21) = false := bne_eq_false_iff_eq.mpr c12
              clear c12
              have H' := Aside0.mk H
              clear H
              go_wp2
              go_meet
              case rel => exact ⟨_, ((a0 == 21)), (by first | rfl | (simp; done) | (simp [*]; done) | (simp [wrap64]; done) | (simp [isEmpty_bne]; done)), H', ⟨by have := HJ1.out; first | omega | exact Nat.le_refl _⟩, by repeat (first | exact Drawn0.refl _ | apply Drawn0.step)⟩
            · rw [if_neg c12] at H
              have c12b0 : (a0 == 21) = false := beq_eq_false_iff_ne.mpr c12
              have c12b1 : (a0 != 21) = true := bne_iff_ne.mpr c12
              by_cases c13 : a0 = 26
              · rw [if_pos c13] at H
                have c13b0 : (a0 == 26) = true := beq_iff_eq.mpr c13
                have c13b1 : (a0 != 26) = false := bne_eq_false_iff_eq.mpr c13
                clear c13
                have H' := Aside0.mk H
                clear H
                go_wp2
                go_meet
                case rel => exact ⟨_, ((a0 == 26)), (by first | rfl | (simp; done) | (simp [*]; done) | (simp [wrap64]; done) | (simp [isEmpty_bne]; done)), H', ⟨by have := HJ1.out; first | omega | exact Nat.le_refl _⟩, by repeat (first | exact Drawn0.refl _ | apply Drawn0.step)⟩
              · rw [if_neg c13] at H
                have c13b0 : (a0 == 26) = false := beq_eq_false_iff_ne.mpr c13
                have c13b1 : (a0 != 26) = true := bne_iff_ne.mpr c13
                have H' := Aside0.mk H
                clear H
                go_wp2
                go_meet
                case rel => exact ⟨_, ((a0 == 27)), (by first | rfl | (simp; done) | (simp [*]; done) | (simp [wrap64]; done) | (simp [isEmpty_bne]; done)), H', ⟨by have := HJ1.out; first | omega | exact Nat.le_refl _⟩, by repeat (first | exact Drawn0.refl _ | apply Drawn0.step)⟩
        case rest =>
          clear HC10
          try clear c1
          try clear c2
          try clear p2
          try clear c3
          try clear c3b0
          try clear c3b1
          try clear c4
          try clear c4b0
          try clear c4b1
          try clear c5
          try clear c5b0
          try clear c5b1
          try clear c6
          try clear c6b0
          try clear c6b1
          try clear p6
          try clear c7
          try clear c7b0
          try clear c7b1
          try clear c8
          try clear c8b0
          try clear c8b1
          try clear c9
          try clear c11
          try clear c11b0
          try clear c11b1
          try clear c12
          try clear c12b0
          try clear c12b1
          try clear c13
          try clear c13b0
          try clear c13b1
          try clear p2
          try clear p6
          obtain ⟨kq, x13_9, rfl, HA, HJ9, ⟨mc9, rfl⟩⟩ := hcut
          cases kq with
          | zero => exact absurd HA.out (by simp [token_Precedence.j1])
          | succ kj9 =>
            have H := HA.out
            clear HA
            simp only [token_Precedence.j1] at H
            by_cases c14 : x13_9 = true
            · subst c14
              have H1 : (some (wrap64 ((wrap64 ((wrap64 ((wrap64 (0 + 1)) + 1)) + 1)) + 1))) = some r := by rw [if_pos rfl] at H; exact H
              clear H
              have H := H1
              clear H1
              obtain rfl := Option.some.inj H
              go_wp2
              go_ret
              exact ⟨by first | rfl | (simp; done) | (simp [*]; done) | (simp [wrap64]; done) | (simp [isEmpty_bne]; done), by repeat (first | exact Drawn0.refl _ | apply Drawn0.step)⟩
            · replace c14 := Bool.eq_false_iff.mpr c14
              subst c14
              have H1 : (if a0 = 46 then (token_Precedence.j2 kj9 0 a0 (a0 == 46)) else (if a0 = 52 then (token_Precedence.j2 kj9 0 a0 (a0 == 52)) else (if a0 = 47 then (token_Precedence.j2 kj9 0 a0 (a0 == 47)) else (if a0 = 53 then (token_Precedence.j2 kj9 0 a0 (a0 == 53)) else (if a0 = 48 then (token_Precedence.j2 kj9 0 a0 (a0 == 48)) else (token_Precedence.j2 kj9 0 a0 (a0 == 54))))))) = some r := by rw [if_neg (show ¬ (false = true) by decide)] at H; exact H
              clear H
              have H := H1
              clear H1
              have HC15 := Aside0.mk H
              clear H
              go_upto_if 18 with (fail)
              go_cut [18] (fun v18 wc => ∃ (kq : Nat) (x18_14 : Bool), v18 = .bool x18_14 ∧ Aside0 (token_Precedence.j2 kq 0 a0 x18_14 = some r) ∧ Aside0 (kq ≤ kj9) ∧ Drawn0 w wc)
              case first =>
                have H := HC15.out
                clear HC15
                by_cases c16 : a0 = 46
                · rw [if_pos c16] at H
                  have c16b0 : (a0 == 46) = true := beq_iff_eq.mpr c16
                  have c16b1 : (a0 != 46) = false := bne_eq_false_iff_eq.mpr c16
                  clear c16
                  (first | rw [c16b0] | (simp only [i64_w, i32_w]; rw [c16b0]) | skip)
                  have H' := Aside0.mk H
                  clear H
                  go_wp2
                  go_meet
                  case rel => exact ⟨_, ((a0 == 46)), (by first | rfl | (simp; done) | (simp [*]; done) | (simp [wrap64]; done) | (simp [isEmpty_bne]; done)), H', ⟨by have := HJ1.out; have := HJ9.out; first | omega | exact Nat.le_refl _⟩, by repeat (first | exact Drawn0.refl _ | apply Drawn0.step)⟩
                · rw [if_neg c16] at H
                  have c16b0 : (a0 == 46) = false := beq_eq_false_iff_ne.mpr c16
                  have c16b1 : (a0 != 46) = true := bne_iff_ne.mpr c16
                  (first | rw [c16b0] | (simp only [i64_w, i32_w]; rw [c16b0]) | skip)
                  by_cases c17 : a0 = 52
                  · rw [if_pos c17] at H
                    have c17b0 : (a0 == 52) = true := beq_iff_eq.mpr c17
                    have c17b1 : (a0 != 52) = false := bne_eq_false_iff_eq.mpr c17
                    clear c17
                    have H' := Aside0.mk H
                    clear H
                    go_wp2
                    go_meet
                    case rel => exact ⟨_, ((a0 == 52)), (by first | rfl | (simp; done) | (simp [*]; done) | (simp [wrap64]; done) | (simp [isEmpty_bne]; done)), H', ⟨by have := HJ1.out; have := HJ9.out; first | omega | exact Nat.le_refl _⟩, by repeat (first | exact Drawn0.refl _ | apply Drawn0.step)⟩
                  · rw [if_neg c17] at H
                    have c17b0 : (a0 == 52) = false := beq_eq_false_iff_ne.mpr c17
                    have c17b1 : (a0 != 52) = true := bne_iff_ne.mpr c17
                    by_cases c18 : a0 = 47
                    · rw [if_pos c18] at H
                      have c18b0 : (a0 == 47) = true := beq_iff_eq.mpr c18
                      have c18b1 : (a0 != 47) = false := bne_eq_false_iff_eq.mpr c18
                      clear c18
                      have H' := Aside0.mk H
                      clear H
                      go_wp2
                      go_meet
                      case rel => exact ⟨_, ((a0 == 47)), (by first | rfl | (simp; done) | (simp [*]; done) | (simp [wrap64]; done) | (simp [isEmpty_bne]; done)), H', ⟨by have := HJ1.out; have := HJ9.out; first | omega | exact Nat.le_refl _⟩, by repeat (first | exact Drawn0.refl _ | apply Drawn0.step)⟩
                    · rw [if_neg c18] at H
                      have c18b0 : (a0 == 47) = false := beq_eq_false_iff_ne.mpr c18
                      have c18b1 : (a0 != 47) = true := bne_iff_ne.mpr c18
                      by_cases c19 : a0 = 53
                      · rw [if_pos c19] at H
                        have c19b0 : (a0 == 53) = true := beq_iff_eq.mpr c19
                        have c19b1 : (a0 != 53) = false := bne_eq_false_iff_eq.mpr c19
                        clear c19
                        have H' := Aside0.mk H
                        clear H
                        go_wp2
                        go_meet
                        case rel => exact ⟨_, ((a0 == 53)), (by first | rfl | (simp; done) | (simp [*]; done) | (simp [wrap64]; done) | (simp [isEmpty_bne]; done)), H', ⟨by have := HJ1.out; have := HJ9.out; first | omega | exact Nat.le_refl _⟩, by repeat (first | exact Drawn0.refl _ | apply Drawn0.step)⟩
                      · rw [if_neg c19] at H
                        have c19b0 : (a0 == 53) = false := beq_eq_false_iff_ne.mpr c19
                        have c19b1 : (a0 != 53) = true := bne_iff_ne.mpr c19
                        by_cases c20 : a0 = 48
                        · rw [if_pos c20] at H
                          have c20b0 : (a0 == 48) = true := beq_iff_eq.mpr c20
                          have c20b1 : (a0 != 48) = false := bne_eq_false_iff_eq.mpr c20
                          clear c20
                          have H' := Aside0.mk H
                          clear H
                          go_wp2
                          go_meet
                          case rel => exact ⟨_, ((a0 == 48)), (by first | rfl | (simp; done) | (simp [*]; done) | (simp [wrap64]; done) | (simp [isEmpty_bne]; done)), H', ⟨by have := HJ1.out; have := HJ9.out; first | omega | exact Nat.le_refl _⟩, by repeat (first | exact Drawn0.refl _ | apply Drawn0.step)⟩
                        · rw [if_neg c20] at H
                          have c20b0 : (a0 == 48) = false := beq_eq_false_iff_ne.mpr c20
                          have c20b1 : (a0 != 48) = true := bne_iff_ne.mpr c20
                          have H' := Aside0.mk H
                          clear H
                          go_wp2
                          go_meet
                          case rel => exact ⟨_, ((a0 == 54)), (by first | rfl | (simp; done) | (simp [*]; done) | (simp [wrap64]; done) | (simp [isEmpty_bne]; done)), H', ⟨by have := HJ1.out; have := HJ9.out; first | omega | exact Nat.le_refl _⟩, by repeat (first | exact Drawn0.refl _ | apply Drawn0.step)⟩
              case rest =>
                clear HC15
                try clear c1
                try clear c2
                try clear p2
                try clear c3
                try clear c3b0
                try clear c3b1
                try clear c4
                try clear c4b0
                try clear c4b1
                try clear c5
                try clear c5b0
                try clear c5b1
                try clear c6
                try clear c6b0
                try clear c6b1
                try clear p6
                try clear c7
                try clear c7b0
                try clear c7b1
                try clear c8
                try clear c8b0
                try clear c8b1
                try clear c9
                try clear c11
                try clear c11b0
                try clear c11b1
                try clear c12
                try clear c12b0
                try clear c12b1
                try clear c13
                try clear c13b0
                try clear c13b1
                try clear c14
                try clear c16
                try clear c16b0
                try clear c16b1
                try clear c17
                try clear c17b0
                try clear c17b1
                try clear c18
                try clear c18b0
                try clear c18b1
                try clear c19
                try clear c19b0
                try clear c19b1
                try clear c20
                try clear c20b0
                try clear c20b1
                try clear p2
                try clear p6
                obtain ⟨kq, x18_14, rfl, HA, HJ14, ⟨mc14, rfl⟩⟩ := hcut
                cases kq with
                | zero => exact absurd HA.out (by simp [token_Precedence.j2])
                | succ kj14 =>
                  have H := HA.out
                  clear HA
                  simp only [token_Precedence.j2] at H
                  by_cases c21 : x18_14 = true
                  · subst c21
                    have H1 : (some (wrap64 ((wrap64 ((wrap64 (0 + 1)) + 1)) + 1))) = some r := by rw [if_pos rfl] at H; exact H
                    clear H
                    have H := H1
                    clear H1
                    obtain rfl := Option.some.inj H
                    go_wp2
                    go_ret
                    exact ⟨by first | rfl | (simp; done) | (simp [*]; done) | (simp [wrap64]; done) | (simp [isEmpty_bne]; done), by repeat (first | exact Drawn0.refl _ | apply Drawn0.step)⟩
                  · replace c21 := Bool.eq_false_iff.mpr c21
                    subst c21
                    have H1 : (if a0 = 42 then (some (wrap64 ((wrap64 (0 + 1)) + 1))) else (if a0 = 43 then (some (wrap64 (0 + 1))) else (some 0))) = some r := by rw [if_neg (show ¬ (false = true) by decide)] at H; exact H
                    clear H
                    have H := H1
                    clear H1
                    by_cases c22 : a0 = 42
                    · rw [if_pos c22] at H
                      have c22b0 : (a0 == 42) = true := beq_iff_eq.mpr c22
                      have c22b1 : (a0 != 42) = false := bne_eq_false_iff_eq.mpr c22
                      clear c22
                      obtain rfl := Option.some.inj H
                      go_wp2
                      go_ret
                      exact ⟨by first | rfl | (simp; done) | (simp [*]; done) | (simp [wrap64]; done) | (simp [isEmpty_bne]; done), by repeat (first | exact Drawn0.refl _ | apply Drawn0.step)⟩
                    · rw [if_neg c22] at H
                      have c22b0 : (a0 == 42) = false := beq_eq_false_iff_ne.mpr c22
                      have c22b1 : (a0 != 42) = true := bne_iff_ne.mpr c22
                      by_cases c23 : a0 = 43
                      · rw [if_pos c23] at H
                        have c23b0 : (a0 == 43) = true := beq_iff_eq.mpr c23
                        have c23b1 : (a0 != 43) = false := bne_eq_false_iff_eq.mpr c23
                        clear c23
                        obtain rfl := Option.some.inj H
                        go_wp2
                        go_ret
                        exact ⟨by first | rfl | (simp; done) | (simp [*]; done) | (simp [wrap64]; done) | (simp [isEmpty_bne]; done), by repeat (first | exact Drawn0.refl _ | apply Drawn0.step)⟩
                      · rw [if_neg c23] at H
                        have c23b0 : (a0 == 43) = false := beq_eq_false_iff_ne.mpr c23
                        have c23b1 : (a0 != 43) = true := bne_iff_ne.mpr c23
                        obtain rfl := Option.some.inj H
                        go_wp2
                        go_ret
                        exact ⟨by first | rfl | (simp; done) | (simp [*]; done) | (simp [wrap64]; done) | (simp [isEmpty_bne]; done), by repeat (first | exact Drawn0.refl _ | apply Drawn0.step)⟩

end Go.Proofs.YtkpceagbjodbbaaDoor.PA
