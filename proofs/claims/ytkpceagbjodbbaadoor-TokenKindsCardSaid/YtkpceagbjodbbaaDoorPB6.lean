-- Printed by a program of this session (wip/xprint.py) for this claim: Lean checks it.
import Derived.Test.YtkpceagbjodbbaaDoorPB0
import Derived.Test.YtkpceagbjodbbaaDoorPB1
import Derived.Test.YtkpceagbjodbbaaDoorPA10
import Derived.Test.YtkpceagbjodbbaaDoorPA20
import Derived.Test.YtkpceagbjodbbaaDoorPA21
import Derived.Test.YtkpceagbjodbbaaDoorPA22
import Derived.Test.YtkpceagbjodbbaaDoorPA23
import Derived.Test.YtkpceagbjodbbaaDoorPA8
import Derived.Test.YtkpceagbjodbbaaDoorPA9
import Derived.Test.YtkpceagbjodbbaaDoorX1
namespace Go.Proofs.YtkpceagbjodbbaaDoor.PB
open Go.RowKit Go.Proofs.YtkpceagbjodbbaaDoor.Ext Go.Proofs.YtkpceagbjodbbaaDoor.PA Go.Proofs.YtkpceagbjodbbaaDoorW.PrintWords Go.Proofs.YtkpceagbjodbbaaDoorW.PrintLast Go.Proofs.YtkpceagbjodbbaaDoorW.PrintMore
attribute [local go_sem] max2_int min2_int max_two min_two max_three min_three max_four min_four   -- for this text's walks alone
set_option linter.unusedVariables false
set_option linter.unusedSimpArgs false

/-! ### scholiastlaw02_TokenKinds: function 9 -/
def scholiastlaw02_TokenKinds.f (k : Nat) (a0 : Int) : Option (Bool) := (scholiastlaw02_shown.f k).bind fun t213 => (if t213 = true then ((token_Name.f k a0).bind fun t214 => ((scholiastref02_Name.f k a0).bind fun t215 => (if t214.toList = t215.toList then ((token_Trivia.f a0).bind fun t216 => ((scholiastref02_Trivia.f a0).bind fun t217 => (if (t216 == t217) = true then ((token_Ends.f a0).bind fun t218 => ((scholiastref02_Ends.f a0).bind fun t219 => (if (t218 == t219) = true then ((token_Precedence.f k a0).bind fun t220 => ((scholiastref02_Precedence.f k a0).bind fun t221 => (if t220 = t221 then ((token_Plain.f a0).bind fun t222 => ((scholiastref02_Plain.f a0).bind fun t223 => (some (t222 == t223)))) else (some false)))) else (some false)))) else (some false)))) else (some false)))) else (some false))
theorem scholiastlaw02_TokenKinds.mono : ∀ a0 k, LeO (scholiastlaw02_TokenKinds.f k a0) (scholiastlaw02_TokenKinds.f (k + 1) a0) := by
  intro a0 k
  unfold scholiastlaw02_TokenKinds.f
  repeat' first
      | (with_reducible exact scholiastlaw02_shown.mono _)
      | (with_reducible exact scholiastref02_Name.mono _ _)
      | (with_reducible exact scholiastref02_Precedence.mono _ _)
      | (with_reducible exact token_Name.mono _ _)
      | (with_reducible exact token_Precedence.mono _ _)
      | (with_reducible exact LeO.refl _)
      | (with_reducible exact LeO.none _)
      | (with_reducible refine LeO.ite ?_ ?_)
      | (with_reducible refine LeO.bind ?_ (fun _ => ?_))
      | exact scholiastlaw02_shown.mono _
      | exact scholiastref02_Name.mono _ _
      | exact scholiastref02_Precedence.mono _ _
      | exact token_Name.mono _ _
      | exact token_Precedence.mono _ _
      | exact LeO.none _
      | refine LeO.ite ?_ ?_
      | refine LeO.bind ?_ (fun _ => ?_)
set_option maxHeartbeats 8000000 in
set_option maxRecDepth 100000 in
theorem scholiastlaw02_TokenKinds.calls (k : Nat) (a0 : Int) (r : Bool) (w : World) (HT : Tabs w) (h : scholiastlaw02_TokenKinds.f k a0 = some r) :
    Calls Tryd.prog 9 #[.int .i64 a0] w fun e w' => e = .returned (.bool r) ∧ Below w.heap.size w w' := by
  have HB := Aside0.mk (Below.refl w.heap.size w)
  have H : ((scholiastlaw02_shown.f k).bind fun t213 => (if t213 = true then ((token_Name.f k a0).bind fun t214 => ((scholiastref02_Name.f k a0).bind fun t215 => (if t214.toList = t215.toList then ((token_Trivia.f a0).bind fun t216 => ((scholiastref02_Trivia.f a0).bind fun t217 => (if (t216 == t217) = true then ((token_Ends.f a0).bind fun t218 => ((scholiastref02_Ends.f a0).bind fun t219 => (if (t218 == t219) = true then ((token_Precedence.f k a0).bind fun t220 => ((scholiastref02_Precedence.f k a0).bind fun t221 => (if t220 = t221 then ((token_Plain.f a0).bind fun t222 => ((scholiastref02_Plain.f a0).bind fun t223 => (some (t222 == t223)))) else (some false)))) else (some false)))) else (some false)))) else (some false)))) else (some false))) = some r := h
  clear h
  replace H := Option.bind_eq_some_iff.mp H
  obtain ⟨t213, A20, H⟩ := H
  replace H : (if t213 = true then ((token_Name.f k a0).bind fun t214 => ((scholiastref02_Name.f k a0).bind fun t215 => (if t214.toList = t215.toList then ((token_Trivia.f a0).bind fun t216 => ((scholiastref02_Trivia.f a0).bind fun t217 => (if (t216 == t217) = true then ((token_Ends.f a0).bind fun t218 => ((scholiastref02_Ends.f a0).bind fun t219 => (if (t218 == t219) = true then ((token_Precedence.f k a0).bind fun t220 => ((scholiastref02_Precedence.f k a0).bind fun t221 => (if t220 = t221 then ((token_Plain.f a0).bind fun t222 => ((scholiastref02_Plain.f a0).bind fun t223 => (some (t222 == t223)))) else (some false)))) else (some false)))) else (some false)))) else (some false)))) else (some false)) = some r := H
  have A2 := Aside0.mk A20
  clear A20
  by_cases c3 : t213 = true
  · subst c3
    have H1 : ((token_Name.f k a0).bind fun t214 => ((scholiastref02_Name.f k a0).bind fun t215 => (if t214.toList = t215.toList then ((token_Trivia.f a0).bind fun t216 => ((scholiastref02_Trivia.f a0).bind fun t217 => (if (t216 == t217) = true then ((token_Ends.f a0).bind fun t218 => ((scholiastref02_Ends.f a0).bind fun t219 => (if (t218 == t219) = true then ((token_Precedence.f k a0).bind fun t220 => ((scholiastref02_Precedence.f k a0).bind fun t221 => (if t220 = t221 then ((token_Plain.f a0).bind fun t222 => ((scholiastref02_Plain.f a0).bind fun t223 => (some (t222 == t223)))) else (some false)))) else (some false)))) else (some false)))) else (some false)))) = some r := by rw [if_pos rfl] at H; exact H
    clear H
    have H := H1
    clear H1
    replace H := Option.bind_eq_some_iff.mp H
    obtain ⟨t214, A40, H⟩ := H
    replace H : ((scholiastref02_Name.f k a0).bind fun t215 => (if t214.toList = t215.toList then ((token_Trivia.f a0).bind fun t216 => ((scholiastref02_Trivia.f a0).bind fun t217 => (if (t216 == t217) = true then ((token_Ends.f a0).bind fun t218 => ((scholiastref02_Ends.f a0).bind fun t219 => (if (t218 == t219) = true then ((token_Precedence.f k a0).bind fun t220 => ((scholiastref02_Precedence.f k a0).bind fun t221 => (if t220 = t221 then ((token_Plain.f a0).bind fun t222 => ((scholiastref02_Plain.f a0).bind fun t223 => (some (t222 == t223)))) else (some false)))) else (some false)))) else (some false)))) else (some false))) = some r := H
    have A4 := Aside0.mk A40
    clear A40
    replace H := Option.bind_eq_some_iff.mp H
    obtain ⟨t215, A50, H⟩ := H
    replace H : (if t214.toList = t215.toList then ((token_Trivia.f a0).bind fun t216 => ((scholiastref02_Trivia.f a0).bind fun t217 => (if (t216 == t217) = true then ((token_Ends.f a0).bind fun t218 => ((scholiastref02_Ends.f a0).bind fun t219 => (if (t218 == t219) = true then ((token_Precedence.f k a0).bind fun t220 => ((scholiastref02_Precedence.f k a0).bind fun t221 => (if t220 = t221 then ((token_Plain.f a0).bind fun t222 => ((scholiastref02_Plain.f a0).bind fun t223 => (some (t222 == t223)))) else (some false)))) else (some false)))) else (some false)))) else (some false)) = some r := H
    have A5 := Aside0.mk A50
    clear A50
    by_cases c6 : t214.toList = t215.toList
    · rw [if_pos c6] at H
      have c6b0 : (t214.toList == t215.toList) = true := beq_iff_eq.mpr c6
      have c6b1 : (t214.toList != t215.toList) = false := bne_eq_false_iff_eq.mpr c6
      clear c6
      replace H := Option.bind_eq_some_iff.mp H
      obtain ⟨t216, A70, H⟩ := H
      replace H : ((scholiastref02_Trivia.f a0).bind fun t217 => (if (t216 == t217) = true then ((token_Ends.f a0).bind fun t218 => ((scholiastref02_Ends.f a0).bind fun t219 => (if (t218 == t219) = true then ((token_Precedence.f k a0).bind fun t220 => ((scholiastref02_Precedence.f k a0).bind fun t221 => (if t220 = t221 then ((token_Plain.f a0).bind fun t222 => ((scholiastref02_Plain.f a0).bind fun t223 => (some (t222 == t223)))) else (some false)))) else (some false)))) else (some false))) = some r := H
      have A7 := Aside0.mk A70
      clear A70
      replace H := Option.bind_eq_some_iff.mp H
      obtain ⟨t217, A80, H⟩ := H
      replace H : (if (t216 == t217) = true then ((token_Ends.f a0).bind fun t218 => ((scholiastref02_Ends.f a0).bind fun t219 => (if (t218 == t219) = true then ((token_Precedence.f k a0).bind fun t220 => ((scholiastref02_Precedence.f k a0).bind fun t221 => (if t220 = t221 then ((token_Plain.f a0).bind fun t222 => ((scholiastref02_Plain.f a0).bind fun t223 => (some (t222 == t223)))) else (some false)))) else (some false)))) else (some false)) = some r := H
      have A8 := Aside0.mk A80
      clear A80
      by_cases c9 : (t216 == t217) = true
      · rw [if_pos c9] at H
        have c9b0 : (t216 == t217) = true := c9
        (try (have c9b1 : decide (t216 = t217) = true := by simpa using c9))
        (try (have c9b2 : (t216 == t217) = true := by simpa using c9))
        clear c9
        replace H := Option.bind_eq_some_iff.mp H
        obtain ⟨t218, A100, H⟩ := H
        replace H : ((scholiastref02_Ends.f a0).bind fun t219 => (if (t218 == t219) = true then ((token_Precedence.f k a0).bind fun t220 => ((scholiastref02_Precedence.f k a0).bind fun t221 => (if t220 = t221 then ((token_Plain.f a0).bind fun t222 => ((scholiastref02_Plain.f a0).bind fun t223 => (some (t222 == t223)))) else (some false)))) else (some false))) = some r := H
        have A10 := Aside0.mk A100
        clear A100
        replace H := Option.bind_eq_some_iff.mp H
        obtain ⟨t219, A110, H⟩ := H
        replace H : (if (t218 == t219) = true then ((token_Precedence.f k a0).bind fun t220 => ((scholiastref02_Precedence.f k a0).bind fun t221 => (if t220 = t221 then ((token_Plain.f a0).bind fun t222 => ((scholiastref02_Plain.f a0).bind fun t223 => (some (t222 == t223)))) else (some false)))) else (some false)) = some r := H
        have A11 := Aside0.mk A110
        clear A110
        by_cases c12 : (t218 == t219) = true
        · rw [if_pos c12] at H
          have c12b0 : (t218 == t219) = true := c12
          (try (have c12b1 : decide (t218 = t219) = true := by simpa using c12))
          (try (have c12b2 : (t218 == t219) = true := by simpa using c12))
          clear c12
          replace H := Option.bind_eq_some_iff.mp H
          obtain ⟨t220, A130, H⟩ := H
          replace H : ((scholiastref02_Precedence.f k a0).bind fun t221 => (if t220 = t221 then ((token_Plain.f a0).bind fun t222 => ((scholiastref02_Plain.f a0).bind fun t223 => (some (t222 == t223)))) else (some false))) = some r := H
          have A13 := Aside0.mk A130
          clear A130
          replace H := Option.bind_eq_some_iff.mp H
          obtain ⟨t221, A140, H⟩ := H
          replace H : (if t220 = t221 then ((token_Plain.f a0).bind fun t222 => ((scholiastref02_Plain.f a0).bind fun t223 => (some (t222 == t223)))) else (some false)) = some r := H
          have A14 := Aside0.mk A140
          clear A140
          by_cases c15 : t220 = t221
          · rw [if_pos c15] at H
            have c15b0 : (t220 == t221) = true := beq_iff_eq.mpr c15
            have c15b1 : (t220 != t221) = false := bne_eq_false_iff_eq.mpr c15
            clear c15
            replace H := Option.bind_eq_some_iff.mp H
            obtain ⟨t222, A160, H⟩ := H
            replace H : ((scholiastref02_Plain.f a0).bind fun t223 => (some (t222 == t223))) = some r := H
            have A16 := Aside0.mk A160
            clear A160
            replace H := Option.bind_eq_some_iff.mp H
            obtain ⟨t223, A170, H⟩ := H
            replace H : (some (t222 == t223)) = some r := H
            have A17 := Aside0.mk A170
            clear A170
            obtain rfl := Option.some.inj H
            go_enter Tryd.func9, Tryd.ntmps9
            go_wp2_with (first | ((with_reducible refine gate_callee (f := 10) rfl ?_); refine goesL_ (some 3) rfl rfl Tryd.func10 (by kernel_rfl) rfl #[] rfl (by (try simp only [List.map_toArray, List.map_cons, List.map_nil]); first | done | rfl | (simp only [List.length_drop, List.length_take]; rfl) | (rw [extract_all]; rfl)) ?_; (with_reducible refine (scholiastlaw02_shown.calls k  true _ ?side1 A2.out).mono ?_); (case side1 => exact Tabs.below HT (by repeat (first | (with_reducible first | exact HB.out | apply below_alloc | apply pw_below_drewN | apply below_drew1) | exact HB.out))); rintro e w18 ⟨rfl, hb⟩; refine ⟨_, rfl, ?_⟩; have n0_ := Aside0.mk (below_step (by repeat (first | (with_reducible first | exact HB.out | apply below_alloc | apply pw_below_drewN | apply below_drew1) | exact HB.out)) hb); clear HB; have HB := n0_; clear n0_; (try clear hb); (try clear hb2); (try clear hk); (try clear hi)) | (go_at_call 21; (with_reducible refine (token_Name.calls k a0 t214 _ A4.out).mono ?_); rintro e w19 ⟨rfl, hb⟩; have n0_ := Aside0.mk (below_step (by repeat (first | (with_reducible first | exact HB.out | apply below_alloc | apply pw_below_drewN | apply below_drew1) | exact HB.out)) hb); clear HB; have HB := n0_; clear n0_; (try clear hb); (try clear hb2); (try clear hk); (try clear hi)) | (go_at_call 24; (with_reducible refine (scholiastref02_Name.calls k a0 t215 _ A5.out).mono ?_); rintro e w20 ⟨rfl, hb⟩; have n0_ := Aside0.mk (below_step (by repeat (first | (with_reducible first | exact HB.out | apply below_alloc | apply pw_below_drewN | apply below_drew1) | exact HB.out)) hb); clear HB; have HB := n0_; clear n0_; (try clear hb); (try clear hb2); (try clear hk); (try clear hi)) | (go_at_call 25; (with_reducible refine (token_Trivia.calls a0 t216 _ A7.out).mono ?_); rintro e w' ⟨rfl, ⟨nd, rfl⟩⟩) | (go_at_call 26; (with_reducible refine (scholiastref02_Trivia.calls a0 t217 _ A8.out).mono ?_); rintro e w' ⟨rfl, ⟨nd, rfl⟩⟩) | (go_at_call 27; (with_reducible refine (token_Ends.calls a0 t218 _ A10.out).mono ?_); rintro e w' ⟨rfl, ⟨nd, rfl⟩⟩) | (go_at_call 28; (with_reducible refine (scholiastref02_Ends.calls a0 t219 _ A11.out).mono ?_); rintro e w' ⟨rfl, ⟨nd, rfl⟩⟩) | (go_at_call 23; (with_reducible refine (token_Precedence.calls k a0 t220 _ A13.out).mono ?_); rintro e w' ⟨rfl, ⟨nd, rfl⟩⟩) | (go_at_call 29; (with_reducible refine (scholiastref02_Precedence.calls k a0 t221 _ A14.out).mono ?_); rintro e w' ⟨rfl, ⟨nd, rfl⟩⟩) | (go_at_call 22; (with_reducible refine (token_Plain.calls a0 t222 _ A16.out).mono ?_); rintro e w' ⟨rfl, ⟨nd, rfl⟩⟩) | (go_at_call 30; (with_reducible refine (scholiastref02_Plain.calls a0 t223 _ A17.out).mono ?_); rintro e w' ⟨rfl, ⟨nd, rfl⟩⟩))
            go_ret
            exact ⟨by first | rfl | (simp [errW_none, errW_some] <;> rfl) | (simp [*, errW_none, errW_some] <;> rfl), by repeat (first | (with_reducible first | exact HB.out | apply below_alloc | apply pw_below_drewN | apply below_drew1) | exact HB.out)⟩
          · rw [if_neg c15] at H
            have c15b0 : (t220 == t221) = false := beq_eq_false_iff_ne.mpr c15
            have c15b1 : (t220 != t221) = true := bne_iff_ne.mpr c15
            obtain rfl := Option.some.inj H
            go_enter Tryd.func9, Tryd.ntmps9
            go_wp2_with (first | ((with_reducible refine gate_callee (f := 10) rfl ?_); refine goesL_ (some 3) rfl rfl Tryd.func10 (by kernel_rfl) rfl #[] rfl (by (try simp only [List.map_toArray, List.map_cons, List.map_nil]); first | done | rfl | (simp only [List.length_drop, List.length_take]; rfl) | (rw [extract_all]; rfl)) ?_; (with_reducible refine (scholiastlaw02_shown.calls k  true _ ?side1 A2.out).mono ?_); (case side1 => exact Tabs.below HT (by repeat (first | (with_reducible first | exact HB.out | apply below_alloc | apply pw_below_drewN | apply below_drew1) | exact HB.out))); rintro e w21 ⟨rfl, hb⟩; refine ⟨_, rfl, ?_⟩; have n0_ := Aside0.mk (below_step (by repeat (first | (with_reducible first | exact HB.out | apply below_alloc | apply pw_below_drewN | apply below_drew1) | exact HB.out)) hb); clear HB; have HB := n0_; clear n0_; (try clear hb); (try clear hb2); (try clear hk); (try clear hi)) | (go_at_call 21; (with_reducible refine (token_Name.calls k a0 t214 _ A4.out).mono ?_); rintro e w22 ⟨rfl, hb⟩; have n0_ := Aside0.mk (below_step (by repeat (first | (with_reducible first | exact HB.out | apply below_alloc | apply pw_below_drewN | apply below_drew1) | exact HB.out)) hb); clear HB; have HB := n0_; clear n0_; (try clear hb); (try clear hb2); (try clear hk); (try clear hi)) | (go_at_call 24; (with_reducible refine (scholiastref02_Name.calls k a0 t215 _ A5.out).mono ?_); rintro e w23 ⟨rfl, hb⟩; have n0_ := Aside0.mk (below_step (by repeat (first | (with_reducible first | exact HB.out | apply below_alloc | apply pw_below_drewN | apply below_drew1) | exact HB.out)) hb); clear HB; have HB := n0_; clear n0_; (try clear hb); (try clear hb2); (try clear hk); (try clear hi)) | (go_at_call 25; (with_reducible refine (token_Trivia.calls a0 t216 _ A7.out).mono ?_); rintro e w' ⟨rfl, ⟨nd, rfl⟩⟩) | (go_at_call 26; (with_reducible refine (scholiastref02_Trivia.calls a0 t217 _ A8.out).mono ?_); rintro e w' ⟨rfl, ⟨nd, rfl⟩⟩) | (go_at_call 27; (with_reducible refine (token_Ends.calls a0 t218 _ A10.out).mono ?_); rintro e w' ⟨rfl, ⟨nd, rfl⟩⟩) | (go_at_call 28; (with_reducible refine (scholiastref02_Ends.calls a0 t219 _ A11.out).mono ?_); rintro e w' ⟨rfl, ⟨nd, rfl⟩⟩) | (go_at_call 23; (with_reducible refine (token_Precedence.calls k a0 t220 _ A13.out).mono ?_); rintro e w' ⟨rfl, ⟨nd, rfl⟩⟩) | (go_at_call 29; (with_reducible refine (scholiastref02_Precedence.calls k a0 t221 _ A14.out).mono ?_); rintro e w' ⟨rfl, ⟨nd, rfl⟩⟩))
            go_ret
            exact ⟨by first | rfl | (simp [errW_none, errW_some] <;> rfl) | (simp [*, errW_none, errW_some] <;> rfl), by repeat (first | (with_reducible first | exact HB.out | apply below_alloc | apply pw_below_drewN | apply below_drew1) | exact HB.out)⟩
        · rw [if_neg c12] at H
          have c12b0 : (t218 == t219) = false := by simpa using c12
          (try (have c12b1 : decide (t218 = t219) = false := by simpa using c12))
          (try (have c12b2 : (t218 == t219) = false := by simpa using c12))
          (try (have c12b3 : ¬ (t218 = t219) := by simpa using c12))
          clear c12
          obtain rfl := Option.some.inj H
          go_enter Tryd.func9, Tryd.ntmps9
          go_wp2_with (first | ((with_reducible refine gate_callee (f := 10) rfl ?_); refine goesL_ (some 3) rfl rfl Tryd.func10 (by kernel_rfl) rfl #[] rfl (by (try simp only [List.map_toArray, List.map_cons, List.map_nil]); first | done | rfl | (simp only [List.length_drop, List.length_take]; rfl) | (rw [extract_all]; rfl)) ?_; (with_reducible refine (scholiastlaw02_shown.calls k  true _ ?side1 A2.out).mono ?_); (case side1 => exact Tabs.below HT (by repeat (first | (with_reducible first | exact HB.out | apply below_alloc | apply pw_below_drewN | apply below_drew1) | exact HB.out))); rintro e w24 ⟨rfl, hb⟩; refine ⟨_, rfl, ?_⟩; have n0_ := Aside0.mk (below_step (by repeat (first | (with_reducible first | exact HB.out | apply below_alloc | apply pw_below_drewN | apply below_drew1) | exact HB.out)) hb); clear HB; have HB := n0_; clear n0_; (try clear hb); (try clear hb2); (try clear hk); (try clear hi)) | (go_at_call 21; (with_reducible refine (token_Name.calls k a0 t214 _ A4.out).mono ?_); rintro e w25 ⟨rfl, hb⟩; have n0_ := Aside0.mk (below_step (by repeat (first | (with_reducible first | exact HB.out | apply below_alloc | apply pw_below_drewN | apply below_drew1) | exact HB.out)) hb); clear HB; have HB := n0_; clear n0_; (try clear hb); (try clear hb2); (try clear hk); (try clear hi)) | (go_at_call 24; (with_reducible refine (scholiastref02_Name.calls k a0 t215 _ A5.out).mono ?_); rintro e w26 ⟨rfl, hb⟩; have n0_ := Aside0.mk (below_step (by repeat (first | (with_reducible first | exact HB.out | apply below_alloc | apply pw_below_drewN | apply below_drew1) | exact HB.out)) hb); clear HB; have HB := n0_; clear n0_; (try clear hb); (try clear hb2); (try clear hk); (try clear hi)) | (go_at_call 25; (with_reducible refine (token_Trivia.calls a0 t216 _ A7.out).mono ?_); rintro e w' ⟨rfl, ⟨nd, rfl⟩⟩) | (go_at_call 26; (with_reducible refine (scholiastref02_Trivia.calls a0 t217 _ A8.out).mono ?_); rintro e w' ⟨rfl, ⟨nd, rfl⟩⟩) | (go_at_call 27; (with_reducible refine (token_Ends.calls a0 t218 _ A10.out).mono ?_); rintro e w' ⟨rfl, ⟨nd, rfl⟩⟩) | (go_at_call 28; (with_reducible refine (scholiastref02_Ends.calls a0 t219 _ A11.out).mono ?_); rintro e w' ⟨rfl, ⟨nd, rfl⟩⟩))
          go_ret
          exact ⟨by first | rfl | (simp [errW_none, errW_some] <;> rfl) | (simp [*, errW_none, errW_some] <;> rfl), by repeat (first | (with_reducible first | exact HB.out | apply below_alloc | apply pw_below_drewN | apply below_drew1) | exact HB.out)⟩
      · rw [if_neg c9] at H
        have c9b0 : (t216 == t217) = false := by simpa using c9
        (try (have c9b1 : decide (t216 = t217) = false := by simpa using c9))
        (try (have c9b2 : (t216 == t217) = false := by simpa using c9))
        (try (have c9b3 : ¬ (t216 = t217) := by simpa using c9))
        clear c9
        obtain rfl := Option.some.inj H
        go_enter Tryd.func9, Tryd.ntmps9
        go_wp2_with (first | ((with_reducible refine gate_callee (f := 10) rfl ?_); refine goesL_ (some 3) rfl rfl Tryd.func10 (by kernel_rfl) rfl #[] rfl (by (try simp only [List.map_toArray, List.map_cons, List.map_nil]); first | done | rfl | (simp only [List.length_drop, List.length_take]; rfl) | (rw [extract_all]; rfl)) ?_; (with_reducible refine (scholiastlaw02_shown.calls k  true _ ?side1 A2.out).mono ?_); (case side1 => exact Tabs.below HT (by repeat (first | (with_reducible first | exact HB.out | apply below_alloc | apply pw_below_drewN | apply below_drew1) | exact HB.out))); rintro e w27 ⟨rfl, hb⟩; refine ⟨_, rfl, ?_⟩; have n0_ := Aside0.mk (below_step (by repeat (first | (with_reducible first | exact HB.out | apply below_alloc | apply pw_below_drewN | apply below_drew1) | exact HB.out)) hb); clear HB; have HB := n0_; clear n0_; (try clear hb); (try clear hb2); (try clear hk); (try clear hi)) | (go_at_call 21; (with_reducible refine (token_Name.calls k a0 t214 _ A4.out).mono ?_); rintro e w28 ⟨rfl, hb⟩; have n0_ := Aside0.mk (below_step (by repeat (first | (with_reducible first | exact HB.out | apply below_alloc | apply pw_below_drewN | apply below_drew1) | exact HB.out)) hb); clear HB; have HB := n0_; clear n0_; (try clear hb); (try clear hb2); (try clear hk); (try clear hi)) | (go_at_call 24; (with_reducible refine (scholiastref02_Name.calls k a0 t215 _ A5.out).mono ?_); rintro e w29 ⟨rfl, hb⟩; have n0_ := Aside0.mk (below_step (by repeat (first | (with_reducible first | exact HB.out | apply below_alloc | apply pw_below_drewN | apply below_drew1) | exact HB.out)) hb); clear HB; have HB := n0_; clear n0_; (try clear hb); (try clear hb2); (try clear hk); (try clear hi)) | (go_at_call 25; (with_reducible refine (token_Trivia.calls a0 t216 _ A7.out).mono ?_); rintro e w' ⟨rfl, ⟨nd, rfl⟩⟩) | (go_at_call 26; (with_reducible refine (scholiastref02_Trivia.calls a0 t217 _ A8.out).mono ?_); rintro e w' ⟨rfl, ⟨nd, rfl⟩⟩))
        go_ret
        exact ⟨by first | rfl | (simp [errW_none, errW_some] <;> rfl) | (simp [*, errW_none, errW_some] <;> rfl), by repeat (first | (with_reducible first | exact HB.out | apply below_alloc | apply pw_below_drewN | apply below_drew1) | exact HB.out)⟩
    · rw [if_neg c6] at H
      have c6b0 : (t214.toList == t215.toList) = false := beq_eq_false_iff_ne.mpr c6
      have c6b1 : (t214.toList != t215.toList) = true := bne_iff_ne.mpr c6
      obtain rfl := Option.some.inj H
      go_enter Tryd.func9, Tryd.ntmps9
      go_wp2_with (first | ((with_reducible refine gate_callee (f := 10) rfl ?_); refine goesL_ (some 3) rfl rfl Tryd.func10 (by kernel_rfl) rfl #[] rfl (by (try simp only [List.map_toArray, List.map_cons, List.map_nil]); first | done | rfl | (simp only [List.length_drop, List.length_take]; rfl) | (rw [extract_all]; rfl)) ?_; (with_reducible refine (scholiastlaw02_shown.calls k  true _ ?side1 A2.out).mono ?_); (case side1 => exact Tabs.below HT (by repeat (first | (with_reducible first | exact HB.out | apply below_alloc | apply pw_below_drewN | apply below_drew1) | exact HB.out))); rintro e w30 ⟨rfl, hb⟩; refine ⟨_, rfl, ?_⟩; have n0_ := Aside0.mk (below_step (by repeat (first | (with_reducible first | exact HB.out | apply below_alloc | apply pw_below_drewN | apply below_drew1) | exact HB.out)) hb); clear HB; have HB := n0_; clear n0_; (try clear hb); (try clear hb2); (try clear hk); (try clear hi)) | (go_at_call 21; (with_reducible refine (token_Name.calls k a0 t214 _ A4.out).mono ?_); rintro e w31 ⟨rfl, hb⟩; have n0_ := Aside0.mk (below_step (by repeat (first | (with_reducible first | exact HB.out | apply below_alloc | apply pw_below_drewN | apply below_drew1) | exact HB.out)) hb); clear HB; have HB := n0_; clear n0_; (try clear hb); (try clear hb2); (try clear hk); (try clear hi)) | (go_at_call 24; (with_reducible refine (scholiastref02_Name.calls k a0 t215 _ A5.out).mono ?_); rintro e w32 ⟨rfl, hb⟩; have n0_ := Aside0.mk (below_step (by repeat (first | (with_reducible first | exact HB.out | apply below_alloc | apply pw_below_drewN | apply below_drew1) | exact HB.out)) hb); clear HB; have HB := n0_; clear n0_; (try clear hb); (try clear hb2); (try clear hk); (try clear hi)))
      go_ret
      exact ⟨by first | rfl | (simp [errW_none, errW_some] <;> rfl) | (simp [*, errW_none, errW_some] <;> rfl), by repeat (first | (with_reducible first | exact HB.out | apply below_alloc | apply pw_below_drewN | apply below_drew1) | exact HB.out)⟩
  · replace c3 := Bool.eq_false_iff.mpr c3
    subst c3
    have H1 : (some false) = some r := by rw [if_neg (show ¬ (false = true) by decide)] at H; exact H
    clear H
    have H := H1
    clear H1
    obtain rfl := Option.some.inj H
    go_enter Tryd.func9, Tryd.ntmps9
    go_wp2_with (first | ((with_reducible refine gate_callee (f := 10) rfl ?_); refine goesL_ (some 3) rfl rfl Tryd.func10 (by kernel_rfl) rfl #[] rfl (by (try simp only [List.map_toArray, List.map_cons, List.map_nil]); first | done | rfl | (simp only [List.length_drop, List.length_take]; rfl) | (rw [extract_all]; rfl)) ?_; (with_reducible refine (scholiastlaw02_shown.calls k  false _ ?side1 A2.out).mono ?_); (case side1 => exact Tabs.below HT (by repeat (first | (with_reducible first | exact HB.out | apply below_alloc | apply pw_below_drewN | apply below_drew1) | exact HB.out))); rintro e w33 ⟨rfl, hb⟩; refine ⟨_, rfl, ?_⟩; have n0_ := Aside0.mk (below_step (by repeat (first | (with_reducible first | exact HB.out | apply below_alloc | apply pw_below_drewN | apply below_drew1) | exact HB.out)) hb); clear HB; have HB := n0_; clear n0_; (try clear hb); (try clear hb2); (try clear hk); (try clear hi)))
    go_ret
    exact ⟨by first | rfl | (simp [errW_none, errW_some] <;> rfl) | (simp [*, errW_none, errW_some] <;> rfl), by repeat (first | (with_reducible first | exact HB.out | apply below_alloc | apply pw_below_drewN | apply below_drew1) | exact HB.out)⟩

/-- THE ONE PURE STATEMENT of scholiastlaw02_TokenKinds: yours. -/
def scholiastlaw02_TokenKinds.Pure : Prop := ∀ (a0 : Int), (Lit.int .i64 a0).wf = true → ∃ k, scholiastlaw02_TokenKinds.f k a0 = some true
theorem scholiastlaw02_TokenKinds.walk (P : scholiastlaw02_TokenKinds.Pure) (a0 : Int) (w : World) (w0 : (Lit.int .i64 a0).wf = true)(HT : Tabs w) :
    Calls Tryd.prog 9 #[.int .i64 a0] w fun e w' => e = .returned (.bool true) ∧ Below w.heap.size w w' := by
  obtain ⟨k, h⟩ := P a0 w0
  refine (scholiastlaw02_TokenKinds.calls k a0 true w HT h).mono ?_
  rintro e w' ⟨rfl, hd⟩
  exact ⟨rfl, hd⟩

end Go.Proofs.YtkpceagbjodbbaaDoor.PB
