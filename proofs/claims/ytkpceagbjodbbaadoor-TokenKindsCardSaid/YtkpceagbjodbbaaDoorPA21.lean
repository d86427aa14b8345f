-- Printed by a program of this session (wip/xprint.py) for this claim: Lean checks it.
import Derived.Test.YtkpceagbjodbbaaDoorPA0
namespace Go.Proofs.YtkpceagbjodbbaaDoor.PA
open Go.RowKit Go.Proofs.YtkpceagbjodbbaaDoor.Ext Go.Proofs.YtkpceagbjodbbaaDoorW.PrintWords Go.Proofs.YtkpceagbjodbbaaDoorW.PrintLast Go.Proofs.YtkpceagbjodbbaaDoorW.PrintMore
attribute [local go_sem] max2_int min2_int max_two min_two max_three min_three max_four min_four   -- for this text's walks alone
set_option linter.unusedVariables false
set_option linter.unusedSimpArgs false

/-! ### scholiastref02_Trivia: function 26 -/
def scholiastref02_Trivia.f (a0 : Int) : Option (Bool) := if a0 ≥ 1 then (some (decide (a0 ≤ 5))) else (some false)
set_option maxHeartbeats 8000000 in
set_option maxRecDepth 100000 in
theorem scholiastref02_Trivia.calls (a0 : Int) (r : Bool) (w : World) (h : scholiastref02_Trivia.f a0 = some r) :
    Calls Tryd.prog 26 #[.int .i64 a0] w fun e w' => e = .returned (.bool r) ∧ Drawn0 w w' := by
  have H : (if a0 ≥ 1 then (some (decide (a0 ≤ 5))) else (some false)) = some r := h
  clear h
  by_cases c2 : a0 ≥ 1
  · rw [if_pos c2] at H
    have c2b0 : decide (1 ≤ a0) = true := decide_eq_true c2
    clear c2
    obtain rfl := Option.some.inj H
    go_enter Tryd.func26, Tryd.ntmps26
    go_wp2
    go_ret
    exact ⟨by first | rfl | (simp; done) | (simp [*]; done) | (simp [wrap64]; done) | (simp [isEmpty_bne]; done), by repeat (first | exact Drawn0.refl _ | apply Drawn0.step)⟩
  · rw [if_neg c2] at H
    have c2b0 : decide (1 ≤ a0) = false := decide_eq_false c2
    clear c2
    obtain rfl := Option.some.inj H
    go_enter Tryd.func26, Tryd.ntmps26
    go_wp2
    go_ret
    exact ⟨by first | rfl | (simp; done) | (simp [*]; done) | (simp [wrap64]; done) | (simp [isEmpty_bne]; done), by repeat (first | exact Drawn0.refl _ | apply Drawn0.step)⟩

/-- THE ONE PURE STATEMENT of scholiastref02_Trivia: yours. -/
def scholiastref02_Trivia.Pure : Prop := ∀ (a0 : Int), (Lit.int .i64 a0).wf = true → scholiastref02_Trivia.f a0 = some true
theorem scholiastref02_Trivia.walk (P : scholiastref02_Trivia.Pure) (a0 : Int) (w : World) (w0 : (Lit.int .i64 a0).wf = true) :
    Calls Tryd.prog 26 #[.int .i64 a0] w fun e w' => e = .returned (.bool true) ∧ Below w.heap.size w w' := by
  have h := P a0 w0
  refine (scholiastref02_Trivia.calls a0 true w h).mono ?_
  rintro e w' ⟨rfl, hd⟩
  exact ⟨rfl, hd.below⟩

/-! ### scholiastref02_Ends: function 28 -/
def scholiastref02_Ends.f (a0 : Int) : Option (Bool) := if a0 = 10 then (some true) else (if a0 = 11 then (some true) else (if a0 = 12 then (some true) else (if a0 = 13 then (some true) else (if a0 = 14 then (some true) else (if a0 = 70 then (some true) else (if a0 = 73 then (some true) else (if a0 = 77 then (some true) else (if a0 = 86 then (some true) else (if a0 = 44 then (some true) else (if a0 = 45 then (some true) else (if a0 = 62 then (some true) else (if a0 = 63 then (some true) else (if a0 = 64 then (some true) else (some false))))))))))))))
set_option maxHeartbeats 8000000 in
set_option maxRecDepth 100000 in
theorem scholiastref02_Ends.calls (a0 : Int) (r : Bool) (w : World) (h : scholiastref02_Ends.f a0 = some r) :
    Calls Tryd.prog 28 #[.int .i64 a0] w fun e w' => e = .returned (.bool r) ∧ Drawn0 w w' := by
  have H : (if a0 = 10 then (some true) else (if a0 = 11 then (some true) else (if a0 = 12 then (some true) else (if a0 = 13 then (some true) else (if a0 = 14 then (some true) else (if a0 = 70 then (some true) else (if a0 = 73 then (some true) else (if a0 = 77 then (some true) else (if a0 = 86 then (some true) else (if a0 = 44 then (some true) else (if a0 = 45 then (some true) else (if a0 = 62 then (some true) else (if a0 = 63 then (some true) else (if a0 = 64 then (some true) else (some false))))))))))))))) = some r := h
  clear h
  by_cases c2 : a0 = 10
  · rw [if_pos c2] at H
    have c2b0 : (a0 == 10) = true := beq_iff_eq.mpr c2
    have c2b1 : (a0 != 10) = false := bne_eq_false_iff_eq.mpr c2
    clear c2
    obtain rfl := Option.some.inj H
    go_enter Tryd.func28, Tryd.ntmps28
    go_wp2
    go_ret
    exact ⟨by first | rfl | (simp; done) | (simp [*]; done) | (simp [wrap64]; done) | (simp [isEmpty_bne]; done), by repeat (first | exact Drawn0.refl _ | apply Drawn0.step)⟩
  · rw [if_neg c2] at H
    have c2b0 : (a0 == 10) = false := beq_eq_false_iff_ne.mpr c2
    have c2b1 : (a0 != 10) = true := bne_iff_ne.mpr c2
    by_cases c3 : a0 = 11
    · rw [if_pos c3] at H
      have c3b0 : (a0 == 11) = true := beq_iff_eq.mpr c3
      have c3b1 : (a0 != 11) = false := bne_eq_false_iff_eq.mpr c3
      clear c3
      obtain rfl := Option.some.inj H
      go_enter Tryd.func28, Tryd.ntmps28
      go_wp2
      go_ret
      exact ⟨by first | rfl | (simp; done) | (simp [*]; done) | (simp [wrap64]; done) | (simp [isEmpty_bne]; done), by repeat (first | exact Drawn0.refl _ | apply Drawn0.step)⟩
    · rw [if_neg c3] at H
      have c3b0 : (a0 == 11) = false := beq_eq_false_iff_ne.mpr c3
      have c3b1 : (a0 != 11) = true := bne_iff_ne.mpr c3
      by_cases c4 : a0 = 12
      · rw [if_pos c4] at H
        have c4b0 : (a0 == 12) = true := beq_iff_eq.mpr c4
        have c4b1 : (a0 != 12) = false := bne_eq_false_iff_eq.mpr c4
        clear c4
        obtain rfl := Option.some.inj H
        go_enter Tryd.func28, Tryd.ntmps28
        go_wp2
        go_ret
        exact ⟨by first | rfl | (simp; done) | (simp [*]; done) | (simp [wrap64]; done) | (simp [isEmpty_bne]; done), by repeat (first | exact Drawn0.refl _ | apply Drawn0.step)⟩
      · rw [if_neg c4] at H
        have c4b0 : (a0 == 12) = false := beq_eq_false_iff_ne.mpr c4
        have c4b1 : (a0 != 12) = true := bne_iff_ne.mpr c4
        by_cases c5 : a0 = 13
        · rw [if_pos c5] at H
          have c5b0 : (a0 == 13) = true := beq_iff_eq.mpr c5
          have c5b1 : (a0 != 13) = false := bne_eq_false_iff_eq.mpr c5
          clear c5
          obtain rfl := Option.some.inj H
          go_enter Tryd.func28, Tryd.ntmps28
          go_wp2
          go_ret
          exact ⟨by first | rfl | (simp; done) | (simp [*]; done) | (simp [wrap64]; done) | (simp [isEmpty_bne]; done), by repeat (first | exact Drawn0.refl _ | apply Drawn0.step)⟩
        · rw [if_neg c5] at H
          have c5b0 : (a0 == 13) = false := beq_eq_false_iff_ne.mpr c5
          have c5b1 : (a0 != 13) = true := bne_iff_ne.mpr c5
          by_cases c6 : a0 = 14
          · rw [if_pos c6] at H
            have c6b0 : (a0 == 14) = true := beq_iff_eq.mpr c6
            have c6b1 : (a0 != 14) = false := bne_eq_false_iff_eq.mpr c6
            clear c6
            obtain rfl := Option.some.inj H
            go_enter Tryd.func28, Tryd.ntmps28
            go_wp2
            go_ret
            exact ⟨by first | rfl | (simp; done) | (simp [*]; done) | (simp [wrap64]; done) | (simp [isEmpty_bne]; done), by repeat (first | exact Drawn0.refl _ | apply Drawn0.step)⟩
          · rw [if_neg c6] at H
            have c6b0 : (a0 == 14) = false := beq_eq_false_iff_ne.mpr c6
            have c6b1 : (a0 != 14) = true := bne_iff_ne.mpr c6
            by_cases c7 : a0 = 70
            · rw [if_pos c7] at H
              have c7b0 : (a0 == 70) = true := beq_iff_eq.mpr c7
              have c7b1 : (a0 != 70) = false := bne_eq_false_iff_eq.mpr c7
              clear c7
              obtain rfl := Option.some.inj H
              go_enter Tryd.func28, Tryd.ntmps28
              go_wp2
              go_ret
              exact ⟨by first | rfl | (simp; done) | (simp [*]; done) | (simp [wrap64]; done) | (simp [isEmpty_bne]; done), by repeat (first | exact Drawn0.refl _ | apply Drawn0.step)⟩
            · rw [if_neg c7] at H
              have c7b0 : (a0 == 70) = false := beq_eq_false_iff_ne.mpr c7
              have c7b1 : (a0 != 70) = true := bne_iff_ne.mpr c7
              by_cases c8 : a0 = 73
              · rw [if_pos c8] at H
                have c8b0 : (a0 == 73) = true := beq_iff_eq.mpr c8
                have c8b1 : (a0 != 73) = false := bne_eq_false_iff_eq.mpr c8
                clear c8
                obtain rfl := Option.some.inj H
                go_enter Tryd.func28, Tryd.ntmps28
                go_wp2
                go_ret
                exact ⟨by first | rfl | (simp; done) | (simp [*]; done) | (simp [wrap64]; done) | (simp [isEmpty_bne]; done), by repeat (first | exact Drawn0.refl _ | apply Drawn0.step)⟩
              · rw [if_neg c8] at H
                have c8b0 : (a0 == 73) = false := beq_eq_false_iff_ne.mpr c8
                have c8b1 : (a0 != 73) = true := bne_iff_ne.mpr c8
                by_cases c9 : a0 = 77
                · rw [if_pos c9] at H
                  have c9b0 : (a0 == 77) = true := beq_iff_eq.mpr c9
                  have c9b1 : (a0 != 77) = false := bne_eq_false_iff_eq.mpr c9
                  clear c9
                  obtain rfl := Option.some.inj H
                  go_enter Tryd.func28, Tryd.ntmps28
                  go_wp2
                  go_ret
                  exact ⟨by first | rfl | (simp; done) | (simp [*]; done) | (simp [wrap64]; done) | (simp [isEmpty_bne]; done), by repeat (first | exact Drawn0.refl _ | apply Drawn0.step)⟩
                · rw [if_neg c9] at H
                  have c9b0 : (a0 == 77) = false := beq_eq_false_iff_ne.mpr c9
                  have c9b1 : (a0 != 77) = true := bne_iff_ne.mpr c9
                  by_cases c10 : a0 = 86
                  · rw [if_pos c10] at H
                    have c10b0 : (a0 == 86) = true := beq_iff_eq.mpr c10
                    have c10b1 : (a0 != 86) = false := bne_eq_false_iff_eq.mpr c10
                    clear c10
                    obtain rfl := Option.some.inj H
                    go_enter Tryd.func28, Tryd.ntmps28
                    go_wp2
                    go_ret
                    exact ⟨by first | rfl | (simp; done) | (simp [*]; done) | (simp [wrap64]; done) | (simp [isEmpty_bne]; done), by repeat (first | exact Drawn0.refl _ | apply Drawn0.step)⟩
                  · rw [if_neg c10] at H
                    have c10b0 : (a0 == 86) = false := beq_eq_false_iff_ne.mpr c10
                    have c10b1 : (a0 != 86) = true := bne_iff_ne.mpr c10
                    by_cases c11 : a0 = 44
                    · rw [if_pos c11] at H
                      have c11b0 : (a0 == 44) = true := beq_iff_eq.mpr c11
                      have c11b1 : (a0 != 44) = false := bne_eq_false_iff_eq.mpr c11
                      clear c11
                      obtain rfl := Option.some.inj H
                      go_enter Tryd.func28, Tryd.ntmps28
                      go_wp2
                      go_ret
                      exact ⟨by first | rfl | (simp; done) | (simp [*]; done) | (simp [wrap64]; done) | (simp [isEmpty_bne]; done), by repeat (first | exact Drawn0.refl _ | apply Drawn0.step)⟩
                    · rw [if_neg c11] at H
                      have c11b0 : (a0 == 44) = false := beq_eq_false_iff_ne.mpr c11
                      have c11b1 : (a0 != 44) = true := bne_iff_ne.mpr c11
                      by_cases c12 : a0 = 45
                      · rw [if_pos c12] at H
                        have c12b0 : (a0 == 45) = true := beq_iff_eq.mpr c12
                        have c12b1 : (a0 != 45) = false := bne_eq_false_iff_eq.mpr c12
                        clear c12
                        obtain rfl := Option.some.inj H
                        go_enter Tryd.func28, Tryd.ntmps28
                        go_wp2
                        go_ret
                        exact ⟨by first | rfl | (simp; done) | (simp [*]; done) | (simp [wrap64]; done) | (simp [isEmpty_bne]; done), by repeat (first | exact Drawn0.refl _ | apply Drawn0.step)⟩
                      · rw [if_neg c12] at H
                        have c12b0 : (a0 == 45) = false := beq_eq_false_iff_ne.mpr c12
                        have c12b1 : (a0 != 45) = true := bne_iff_ne.mpr c12
                        by_cases c13 : a0 = 62
                        · rw [if_pos c13] at H
                          have c13b0 : (a0 == 62) = true := beq_iff_eq.mpr c13
                          have c13b1 : (a0 != 62) = false := bne_eq_false_iff_eq.mpr c13
                          clear c13
                          obtain rfl := Option.some.inj H
                          go_enter Tryd.func28, Tryd.ntmps28
                          go_wp2
                          go_ret
                          exact ⟨by first | rfl | (simp; done) | (simp [*]; done) | (simp [wrap64]; done) | (simp [isEmpty_bne]; done), by repeat (first | exact Drawn0.refl _ | apply Drawn0.step)⟩
                        · rw [if_neg c13] at H
                          have c13b0 : (a0 == 62) = false := beq_eq_false_iff_ne.mpr c13
                          have c13b1 : (a0 != 62) = true := bne_iff_ne.mpr c13
                          by_cases c14 : a0 = 63
                          · rw [if_pos c14] at H
                            have c14b0 : (a0 == 63) = true := beq_iff_eq.mpr c14
                            have c14b1 : (a0 != 63) = false := bne_eq_false_iff_eq.mpr c14
                            clear c14
                            obtain rfl := Option.some.inj H
                            go_enter Tryd.func28, Tryd.ntmps28
                            go_wp2
                            go_ret
                            exact ⟨by first | rfl | (simp; done) | (simp [*]; done) | (simp [wrap64]; done) | (simp [isEmpty_bne]; done), by repeat (first | exact Drawn0.refl _ | apply Drawn0.step)⟩
                          · rw [if_neg c14] at H
                            have c14b0 : (a0 == 63) = false := beq_eq_false_iff_ne.mpr c14
                            have c14b1 : (a0 != 63) = true := bne_iff_ne.mpr c14
                            by_cases c15 : a0 = 64
                            · rw [if_pos c15] at H
                              have c15b0 : (a0 == 64) = true := beq_iff_eq.mpr c15
                              have c15b1 : (a0 != 64) = false := bne_eq_false_iff_eq.mpr c15
                              clear c15
                              obtain rfl := Option.some.inj H
                              go_enter Tryd.func28, Tryd.ntmps28
                              go_wp2
                              go_ret
                              exact ⟨by first | rfl | (simp; done) | (simp [*]; done) | (simp [wrap64]; done) | (simp [isEmpty_bne]; done), by repeat (first | exact Drawn0.refl _ | apply Drawn0.step)⟩
                            · rw [if_neg c15] at H
                              have c15b0 : (a0 == 64) = false := beq_eq_false_iff_ne.mpr c15
                              have c15b1 : (a0 != 64) = true := bne_iff_ne.mpr c15
                              obtain rfl := Option.some.inj H
                              go_enter Tryd.func28, Tryd.ntmps28
                              go_wp2
                              go_ret
                              exact ⟨by first | rfl | (simp; done) | (simp [*]; done) | (simp [wrap64]; done) | (simp [isEmpty_bne]; done), by repeat (first | exact Drawn0.refl _ | apply Drawn0.step)⟩

/-- THE ONE PURE STATEMENT of scholiastref02_Ends: yours. -/
def scholiastref02_Ends.Pure : Prop := ∀ (a0 : Int), (Lit.int .i64 a0).wf = true → scholiastref02_Ends.f a0 = some true
theorem scholiastref02_Ends.walk (P : scholiastref02_Ends.Pure) (a0 : Int) (w : World) (w0 : (Lit.int .i64 a0).wf = true) :
    Calls Tryd.prog 28 #[.int .i64 a0] w fun e w' => e = .returned (.bool true) ∧ Below w.heap.size w w' := by
  have h := P a0 w0
  refine (scholiastref02_Ends.calls a0 true w h).mono ?_
  rintro e w' ⟨rfl, hd⟩
  exact ⟨rfl, hd.below⟩

end Go.Proofs.YtkpceagbjodbbaaDoor.PA
