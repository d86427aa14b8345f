/- The pure statement of TokenKinds. Own work. -/
import Derived.Test.YtkpceagbjodbbaaDoorPA10
import Derived.Test.YtkpceagbjodbbaaDoorPA20
import Derived.Test.YtkpceagbjodbbaaDoorPA21
import Derived.Test.YtkpceagbjodbbaaDoorPA22
import Derived.Test.YtkpceagbjodbbaaDoorPA23
import Derived.Test.YtkpceagbjodbbaaDoorPA8
import Derived.Test.YtkpceagbjodbbaaDoorPA9
import Derived.Test.YtkpceagbjodbbaaDoorPB1
import Derived.Test.YtkpceagbjodbbaaDoorPB6
import Derived.KernelRfl
namespace Go.Proofs.YtkpceagbjodbbaaDoor.Pure
set_option linter.unusedSimpArgs false
open Go.RowKit Go.Proofs.YtkpceagbjodbbaaDoorW.PrintWords Go.Proofs.YtkpceagbjodbbaaDoor.PA Go.Proofs.YtkpceagbjodbbaaDoor.PB Go.Proofs.YtkpceagbjodbbaaDoor.Ext
theorem kinds_small : ((List.range 91).all fun n => decide (scholiastlaw02_TokenKinds.f 400 (n : Int) = some true)) = true := by kernel_rfl
set_option maxRecDepth 100000 in
theorem kinds_far (a : Int) (h : a < 0 ∨ 90 < a) : scholiastlaw02_TokenKinds.f 400 a = some true := by
  have hs : scholiastlaw02_shown.f 400 = some true := by kernel_rfl
  have e1 : token_Name.f 400 a = some ⟨#[]⟩ := by
    simp only [token_Name.f, token_Name.j0, token_Name.j1, decide_eq_true_eq, Bool.false_eq_true, if_false, beq_iff_eq]
    rcases h with h | h
    all_goals
      repeat (first | rw [if_neg (by omega)] | rw [if_pos (by omega)])
  have e2 : scholiastref02_Name.f 400 a = some ⟨#[]⟩ := by
    simp only [scholiastref02_Name.f, scholiastref02_Name.j0, scholiastref02_Name.j1, scholiastref02_Name.j2, decide_eq_true_eq, Bool.false_eq_true, if_false, beq_iff_eq]
    rcases h with h | h
    all_goals
      repeat (first | rw [if_neg (by omega)] | rw [if_pos (by omega)])
  have e3 : token_Trivia.f a = some false := by
    unfold token_Trivia.f
    rcases h with h | h
    · rw [if_neg (by omega)]
    · rw [if_pos (by omega), decide_eq_false (by omega)]
  have e4 : scholiastref02_Trivia.f a = some false := by
    unfold scholiastref02_Trivia.f
    rcases h with h | h
    · rw [if_neg (by omega)]
    · rw [if_pos (by omega), decide_eq_false (by omega)]
  have e5 : token_Ends.f a = some false := by
    simp only [token_Ends.f, decide_eq_true_eq, Bool.false_eq_true, if_false, beq_iff_eq]
    rcases h with h | h
    all_goals
      repeat (first | rw [if_neg (by omega)] | rw [if_pos (by omega)])
  have e6 : scholiastref02_Ends.f a = some false := by
    simp only [scholiastref02_Ends.f, decide_eq_true_eq, Bool.false_eq_true, if_false, beq_iff_eq]
    rcases h with h | h
    all_goals
      repeat (first | rw [if_neg (by omega)] | rw [if_pos (by omega)])
  have e7 : token_Precedence.f 400 a = some 0 := by
    simp only [token_Precedence.f, token_Precedence.j0, token_Precedence.j1, token_Precedence.j2, decide_eq_true_eq, Bool.false_eq_true, if_false, beq_iff_eq]
    rcases h with h | h
    all_goals
      repeat (first | rw [if_neg (by omega)] | rw [if_pos (by omega)])
  have e8 : scholiastref02_Precedence.f 400 a = some 0 := by
    simp only [scholiastref02_Precedence.f, scholiastref02_Precedence.j0, scholiastref02_Precedence.j1, decide_eq_true_eq, Bool.false_eq_true, if_false, beq_iff_eq]
    rcases h with h | h
    all_goals
      repeat (first | rw [if_neg (by omega)] | rw [if_pos (by omega)])
  have e9 : token_Plain.f a = some 0 := by
    simp only [token_Plain.f, decide_eq_true_eq, Bool.false_eq_true, if_false, beq_iff_eq]
    rcases h with h | h
    all_goals
      repeat (first | rw [if_neg (by omega)] | rw [if_pos (by omega)])
  have e10 : scholiastref02_Plain.f a = some 0 := by
    simp only [scholiastref02_Plain.f, decide_eq_true_eq, Bool.false_eq_true, if_false, beq_iff_eq]
    rcases h with h | h
    all_goals
      repeat (first | rw [if_neg (by omega)] | rw [if_pos (by omega)])
  unfold scholiastlaw02_TokenKinds.f
  rw [hs, e1, e2, e3, e4, e5, e6, e7, e8, e9, e10]
  simp
theorem TokenKinds : scholiastlaw02_TokenKinds.Pure := by
  intro a _
  by_cases h : a < 0 ∨ 90 < a
  · exact ⟨400, kinds_far a h⟩
  · have := List.all_eq_true.1 kinds_small a.toNat (by simp; omega)
    refine ⟨400, ?_⟩
    have e : ((a.toNat : Nat) : Int) = a := by omega
    rw [e] at this
    exact of_decide_eq_true this
end Go.Proofs.YtkpceagbjodbbaaDoor.Pure
