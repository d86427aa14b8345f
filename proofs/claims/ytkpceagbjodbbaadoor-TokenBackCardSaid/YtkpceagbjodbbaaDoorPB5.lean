-- Printed by a program of this session (wip/xprint.py) for this claim: Lean checks it.
import Derived.Test.YtkpceagbjodbbaaDoorPB0
import Derived.Test.YtkpceagbjodbbaaDoorPB1
import Derived.Test.YtkpceagbjodbbaaDoorPA7
import Derived.Test.YtkpceagbjodbbaaDoorPA8
import Derived.Test.YtkpceagbjodbbaaDoorPA9
import Derived.Test.YtkpceagbjodbbaaDoorX1
namespace Go.Proofs.YtkpceagbjodbbaaDoor.PB
open Go.RowKit Go.Proofs.YtkpceagbjodbbaaDoor.Ext Go.Proofs.YtkpceagbjodbbaaDoor.PA Go.Proofs.YtkpceagbjodbbaaDoorW.PrintWords Go.Proofs.YtkpceagbjodbbaaDoorW.PrintLast Go.Proofs.YtkpceagbjodbbaaDoorW.PrintMore
attribute [local go_sem] max2_int min2_int max_two min_two max_three min_three max_four min_four IntKind.wrap_u8   -- for this text's walks alone
set_option linter.unusedVariables false
set_option linter.unusedSimpArgs false

/-! ### scholiastlaw02_TokenBack: function 8 -/
mutual
def scholiastlaw02_TokenBack.j0 : Nat → Int → ByteArray → ByteArray → Int → Int → Bool → Option (Bool)
  | 0, _, _, _, _, _, _ => none
  | k + 1, x0, x1, x5, x6, x7, x55 => if x55 = true then (some false) else (if x6 > 0 then (scholiastlaw02_TokenBack.j1 k x0 x1 x5 x7 (x7 == (x5.size : Int))) else (scholiastlaw02_TokenBack.j1 k x0 x1 x5 x7 false))
def scholiastlaw02_TokenBack.j1 : Nat → Int → ByteArray → ByteArray → Int → Bool → Option (Bool)
  | 0, _, _, _, _, _ => none
  | k + 1, x0, x1, x5, x7, x63 => if x63 = true then (if x5.size + x1.size ≤ 9223372036854775807 then ((token_Operator.f k (x5 ++ x1)).bind fun bt206 => (if bt206.2 < x7 then (some false) else ((token_Name.f k bt206.1).bind fun t208 => (if 0 ≤ bt206.2 then (if bt206.2 ≤ ((x5 ++ x1).size : Int) then (if t208.toList = ((x5 ++ x1).extract 0 (bt206.2 : Int).toNat).toList then (scholiastlaw02_TokenBack.j2 k x0 x5) else (some false)) else (none)) else (none))))) else (none)) else (scholiastlaw02_TokenBack.j2 k x0 x5)
def scholiastlaw02_TokenBack.j2 : Nat → Int → ByteArray → Option (Bool)
  | 0, _, _ => none
  | k + 1, x0, x5 => (token_Plain.f x0).bind fun t209 => (if t209 = 0 then (some true) else ((token_Name.f k t209).bind fun t210 => (if t210.size + 1 ≤ 9223372036854775807 then (if (t210 ++ (⟨#[61]⟩ : ByteArray)).toList = x5.toList then ((token_Precedence.f k t209).bind fun t211 => (if t211 > 3 then ((token_Precedence.f k x0).bind fun t212 => (some (t212 == 0))) else (some false))) else (some false)) else (none))))
end
def scholiastlaw02_TokenBack.f (k : Nat) (a0 : Int) (a1 : ByteArray) : Option (Bool) := if (a1.size : Int) > 1073741824 then (some true) else ((scholiastlaw02_shown.f k).bind fun t194 => (if t194 = true then ((token_Name.f k a0).bind fun t195 => ((token_Operator.f k t195).bind fun bt196 => ((token_Keyword.f k t195).bind fun t198 => (if t198 = 0 then (if bt196.2 = (t195.size : Int) then (if bt196.2 > 0 then (if bt196.1 = a0 then ((token_Keyword.f k t195).bind fun t199 => (if t199 = 0 then (scholiastlaw02_TokenBack.j0 k a0 a1 t195 bt196.1 bt196.2 false) else (scholiastlaw02_TokenBack.j0 k a0 a1 t195 bt196.1 bt196.2 (bt196.2 != 0)))) else (scholiastlaw02_TokenBack.j0 k a0 a1 t195 bt196.1 bt196.2 true)) else ((token_Keyword.f k t195).bind fun t200 => (if t200 = 0 then (scholiastlaw02_TokenBack.j0 k a0 a1 t195 bt196.1 bt196.2 false) else (scholiastlaw02_TokenBack.j0 k a0 a1 t195 bt196.1 bt196.2 (bt196.2 != 0))))) else ((token_Keyword.f k t195).bind fun t201 => (if t201 = 0 then (scholiastlaw02_TokenBack.j0 k a0 a1 t195 bt196.1 bt196.2 false) else (scholiastlaw02_TokenBack.j0 k a0 a1 t195 bt196.1 bt196.2 (bt196.2 != 0))))) else ((token_Keyword.f k t195).bind fun t202 => (if t202 = a0 then (if bt196.2 = (t195.size : Int) then (if bt196.2 > 0 then (if bt196.1 = a0 then ((token_Keyword.f k t195).bind fun t203 => (if t203 = 0 then (scholiastlaw02_TokenBack.j0 k a0 a1 t195 bt196.1 bt196.2 false) else (scholiastlaw02_TokenBack.j0 k a0 a1 t195 bt196.1 bt196.2 (bt196.2 != 0)))) else (scholiastlaw02_TokenBack.j0 k a0 a1 t195 bt196.1 bt196.2 true)) else ((token_Keyword.f k t195).bind fun t204 => (if t204 = 0 then (scholiastlaw02_TokenBack.j0 k a0 a1 t195 bt196.1 bt196.2 false) else (scholiastlaw02_TokenBack.j0 k a0 a1 t195 bt196.1 bt196.2 (bt196.2 != 0))))) else ((token_Keyword.f k t195).bind fun t205 => (if t205 = 0 then (scholiastlaw02_TokenBack.j0 k a0 a1 t195 bt196.1 bt196.2 false) else (scholiastlaw02_TokenBack.j0 k a0 a1 t195 bt196.1 bt196.2 (bt196.2 != 0))))) else (scholiastlaw02_TokenBack.j0 k a0 a1 t195 bt196.1 bt196.2 true))))))) else (some false)))
theorem scholiastlaw02_TokenBack.mono_l : ∀ k, (∀ y0 y1 y2 y3 y4 y5, LeO (scholiastlaw02_TokenBack.j0 k y0 y1 y2 y3 y4 y5) (scholiastlaw02_TokenBack.j0 (k + 1) y0 y1 y2 y3 y4 y5)) ∧ (∀ y0 y1 y2 y3 y4, LeO (scholiastlaw02_TokenBack.j1 k y0 y1 y2 y3 y4) (scholiastlaw02_TokenBack.j1 (k + 1) y0 y1 y2 y3 y4)) ∧ (∀ y0 y1, LeO (scholiastlaw02_TokenBack.j2 k y0 y1) (scholiastlaw02_TokenBack.j2 (k + 1) y0 y1))
  | 0 => ⟨fun _ _ _ _ _ _ r h => by simp [scholiastlaw02_TokenBack.j0] at h, fun _ _ _ _ _ r h => by simp [scholiastlaw02_TokenBack.j1] at h, fun _ _ r h => by simp [scholiastlaw02_TokenBack.j2] at h⟩
  | k + 1 => by
    obtain ⟨ih0, ih1, ih2⟩ := scholiastlaw02_TokenBack.mono_l k
    refine ⟨?_, ?_, ?_⟩
    · intro y0 y1 y2 y3 y4 y5
      unfold scholiastlaw02_TokenBack.j0
      repeat' first
      | (with_reducible exact ih0 _ _ _ _ _ _)
      | (with_reducible exact ih1 _ _ _ _ _)
      | (with_reducible exact ih2 _ _)
      | (with_reducible exact scholiastlaw02_shown.mono _)
      | (with_reducible exact token_Keyword.mono _ _)
      | (with_reducible exact token_Name.mono _ _)
      | (with_reducible exact token_Operator.mono _ _)
      | (with_reducible exact token_Precedence.mono _ _)
      | (with_reducible exact LeO.refl _)
      | (with_reducible exact LeO.none _)
      | (with_reducible refine LeO.ite ?_ ?_)
      | (with_reducible refine LeO.bind ?_ (fun _ => ?_))
      | exact ih0 _ _ _ _ _ _
      | exact ih1 _ _ _ _ _
      | exact ih2 _ _
      | exact scholiastlaw02_shown.mono _
      | exact token_Keyword.mono _ _
      | exact token_Name.mono _ _
      | exact token_Operator.mono _ _
      | exact token_Precedence.mono _ _
      | exact LeO.none _
      | refine LeO.ite ?_ ?_
      | refine LeO.bind ?_ (fun _ => ?_)
    · intro y0 y1 y2 y3 y4
      unfold scholiastlaw02_TokenBack.j1
      repeat' first
      | (with_reducible exact ih0 _ _ _ _ _ _)
      | (with_reducible exact ih1 _ _ _ _ _)
      | (with_reducible exact ih2 _ _)
      | (with_reducible exact scholiastlaw02_shown.mono _)
      | (with_reducible exact token_Keyword.mono _ _)
      | (with_reducible exact token_Name.mono _ _)
      | (with_reducible exact token_Operator.mono _ _)
      | (with_reducible exact token_Precedence.mono _ _)
      | (with_reducible exact LeO.refl _)
      | (with_reducible exact LeO.none _)
      | (with_reducible refine LeO.ite ?_ ?_)
      | (with_reducible refine LeO.bind ?_ (fun _ => ?_))
      | exact ih0 _ _ _ _ _ _
      | exact ih1 _ _ _ _ _
      | exact ih2 _ _
      | exact scholiastlaw02_shown.mono _
      | exact token_Keyword.mono _ _
      | exact token_Name.mono _ _
      | exact token_Operator.mono _ _
      | exact token_Precedence.mono _ _
      | exact LeO.none _
      | refine LeO.ite ?_ ?_
      | refine LeO.bind ?_ (fun _ => ?_)
    · intro y0 y1
      unfold scholiastlaw02_TokenBack.j2
      repeat' first
      | (with_reducible exact ih0 _ _ _ _ _ _)
      | (with_reducible exact ih1 _ _ _ _ _)
      | (with_reducible exact ih2 _ _)
      | (with_reducible exact scholiastlaw02_shown.mono _)
      | (with_reducible exact token_Keyword.mono _ _)
      | (with_reducible exact token_Name.mono _ _)
      | (with_reducible exact token_Operator.mono _ _)
      | (with_reducible exact token_Precedence.mono _ _)
      | (with_reducible exact LeO.refl _)
      | (with_reducible exact LeO.none _)
      | (with_reducible refine LeO.ite ?_ ?_)
      | (with_reducible refine LeO.bind ?_ (fun _ => ?_))
      | exact ih0 _ _ _ _ _ _
      | exact ih1 _ _ _ _ _
      | exact ih2 _ _
      | exact scholiastlaw02_shown.mono _
      | exact token_Keyword.mono _ _
      | exact token_Name.mono _ _
      | exact token_Operator.mono _ _
      | exact token_Precedence.mono _ _
      | exact LeO.none _
      | refine LeO.ite ?_ ?_
      | refine LeO.bind ?_ (fun _ => ?_)
theorem scholiastlaw02_TokenBack.mono : ∀ a0 a1 k, LeO (scholiastlaw02_TokenBack.f k a0 a1) (scholiastlaw02_TokenBack.f (k + 1) a0 a1) := by
  intro a0 a1 k
  obtain ⟨ih0, ih1, ih2⟩ := scholiastlaw02_TokenBack.mono_l k
  unfold scholiastlaw02_TokenBack.f
  repeat' first
      | (with_reducible exact ih0 _ _ _ _ _ _)
      | (with_reducible exact ih1 _ _ _ _ _)
      | (with_reducible exact ih2 _ _)
      | (with_reducible exact scholiastlaw02_shown.mono _)
      | (with_reducible exact token_Keyword.mono _ _)
      | (with_reducible exact token_Name.mono _ _)
      | (with_reducible exact token_Operator.mono _ _)
      | (with_reducible exact token_Precedence.mono _ _)
      | (with_reducible exact LeO.refl _)
      | (with_reducible exact LeO.none _)
      | (with_reducible refine LeO.ite ?_ ?_)
      | (with_reducible refine LeO.bind ?_ (fun _ => ?_))
      | exact ih0 _ _ _ _ _ _
      | exact ih1 _ _ _ _ _
      | exact ih2 _ _
      | exact scholiastlaw02_shown.mono _
      | exact token_Keyword.mono _ _
      | exact token_Name.mono _ _
      | exact token_Operator.mono _ _
      | exact token_Precedence.mono _ _
      | exact LeO.none _
      | refine LeO.ite ?_ ?_
      | refine LeO.bind ?_ (fun _ => ?_)
def scholiastlaw02_TokenBack.T11 : Bool × List (List Nat × List Nat) := (true, [([], []), ([], []), ([0, 1], [0, 1]), ([2], [2]), ([3], [3]), ([4, 3, 3], [3, 4]), ([3], [3]), ([3], [3]), ([6, 7, 3], [3, 6, 7]), ([3], [3]), ([8, 9, 3], [3, 8, 9]), ([5, 10, 3], [3, 5, 10]), ([3, 11], [3, 11])])
def scholiastlaw02_TokenBack.B11 : List Nat := [0, 0, 3, 7, 15, 31, 15, 15, 207, 15, 975, 2047, 4095]
theorem scholiastlaw02_TokenBack.tab11 : rtab .any (opsOf Tryd.f8 11) = scholiastlaw02_TokenBack.T11 := by kernel_rfl
theorem scholiastlaw02_TokenBack.bits11 : waitsOk scholiastlaw02_TokenBack.T11.2 scholiastlaw02_TokenBack.B11 = true := by kernel_rfl
set_option maxHeartbeats 8000000 in
set_option maxRecDepth 100000 in
theorem scholiastlaw02_TokenBack.calls (k : Nat) (a0 : Int) (a1 : ByteArray) (r : Bool) (w : World) (HT : Tabs w) (h : scholiastlaw02_TokenBack.f k a0 a1 = some r) :
    Calls Tryd.prog 8 #[.int .i64 a0, .string a1] w fun e w' => e = .returned (.bool r) ∧ Below w.heap.size w w' := by
  have HB := Aside0.mk (Below.refl w.heap.size w)
  have H : (if (a1.size : Int) > 1073741824 then (some true) else ((scholiastlaw02_shown.f k).bind fun t194 => (if t194 = true then ((token_Name.f k a0).bind fun t195 => ((token_Operator.f k t195).bind fun bt196 => ((token_Keyword.f k t195).bind fun t198 => (if t198 = 0 then (if bt196.2 = (t195.size : Int) then (if bt196.2 > 0 then (if bt196.1 = a0 then ((token_Keyword.f k t195).bind fun t199 => (if t199 = 0 then (scholiastlaw02_TokenBack.j0 k a0 a1 t195 bt196.1 bt196.2 false) else (scholiastlaw02_TokenBack.j0 k a0 a1 t195 bt196.1 bt196.2 (bt196.2 != 0)))) else (scholiastlaw02_TokenBack.j0 k a0 a1 t195 bt196.1 bt196.2 true)) else ((token_Keyword.f k t195).bind fun t200 => (if t200 = 0 then (scholiastlaw02_TokenBack.j0 k a0 a1 t195 bt196.1 bt196.2 false) else (scholiastlaw02_TokenBack.j0 k a0 a1 t195 bt196.1 bt196.2 (bt196.2 != 0))))) else ((token_Keyword.f k t195).bind fun t201 => (if t201 = 0 then (scholiastlaw02_TokenBack.j0 k a0 a1 t195 bt196.1 bt196.2 false) else (scholiastlaw02_TokenBack.j0 k a0 a1 t195 bt196.1 bt196.2 (bt196.2 != 0))))) else ((token_Keyword.f k t195).bind fun t202 => (if t202 = a0 then (if bt196.2 = (t195.size : Int) then (if bt196.2 > 0 then (if bt196.1 = a0 then ((token_Keyword.f k t195).bind fun t203 => (if t203 = 0 then (scholiastlaw02_TokenBack.j0 k a0 a1 t195 bt196.1 bt196.2 false) else (scholiastlaw02_TokenBack.j0 k a0 a1 t195 bt196.1 bt196.2 (bt196.2 != 0)))) else (scholiastlaw02_TokenBack.j0 k a0 a1 t195 bt196.1 bt196.2 true)) else ((token_Keyword.f k t195).bind fun t204 => (if t204 = 0 then (scholiastlaw02_TokenBack.j0 k a0 a1 t195 bt196.1 bt196.2 false) else (scholiastlaw02_TokenBack.j0 k a0 a1 t195 bt196.1 bt196.2 (bt196.2 != 0))))) else ((token_Keyword.f k t195).bind fun t205 => (if t205 = 0 then (scholiastlaw02_TokenBack.j0 k a0 a1 t195 bt196.1 bt196.2 false) else (scholiastlaw02_TokenBack.j0 k a0 a1 t195 bt196.1 bt196.2 (bt196.2 != 0))))) else (scholiastlaw02_TokenBack.j0 k a0 a1 t195 bt196.1 bt196.2 true))))))) else (some false)))) = some r := h
  clear h
  by_cases c3 : (a1.size : Int) > 1073741824
  · rw [if_pos c3] at H
    have c3b0 : decide (1073741824 < (a1.size : Int)) = true := decide_eq_true c3
    have c3b1 : decide (1073741824 < a1.size) = true := decide_eq_true (by omega)
    clear c3
    obtain rfl := Option.some.inj H
    go_enter Tryd.func8, Tryd.ntmps8
    go_wp2
    go_ret
    exact ⟨by first | rfl | (simp [errW_none, errW_some] <;> rfl) | (simp [*, errW_none, errW_some] <;> rfl), by repeat (first | (with_reducible first | exact HB.out | apply below_alloc | apply pw_below_drewN | apply below_drew1) | exact HB.out)⟩
  · rw [if_neg c3] at H
    have c3b0 : decide (1073741824 < (a1.size : Int)) = false := decide_eq_false c3
    have c3b1 : decide (1073741824 < a1.size) = false := decide_eq_false (by omega)
    clear c3
    replace H := Option.bind_eq_some_iff.mp H
    obtain ⟨t194, A40, H⟩ := H
    replace H : (if t194 = true then ((token_Name.f k a0).bind fun t195 => ((token_Operator.f k t195).bind fun bt196 => ((token_Keyword.f k t195).bind fun t198 => (if t198 = 0 then (if bt196.2 = (t195.size : Int) then (if bt196.2 > 0 then (if bt196.1 = a0 then ((token_Keyword.f k t195).bind fun t199 => (if t199 = 0 then (scholiastlaw02_TokenBack.j0 k a0 a1 t195 bt196.1 bt196.2 false) else (scholiastlaw02_TokenBack.j0 k a0 a1 t195 bt196.1 bt196.2 (bt196.2 != 0)))) else (scholiastlaw02_TokenBack.j0 k a0 a1 t195 bt196.1 bt196.2 true)) else ((token_Keyword.f k t195).bind fun t200 => (if t200 = 0 then (scholiastlaw02_TokenBack.j0 k a0 a1 t195 bt196.1 bt196.2 false) else (scholiastlaw02_TokenBack.j0 k a0 a1 t195 bt196.1 bt196.2 (bt196.2 != 0))))) else ((token_Keyword.f k t195).bind fun t201 => (if t201 = 0 then (scholiastlaw02_TokenBack.j0 k a0 a1 t195 bt196.1 bt196.2 false) else (scholiastlaw02_TokenBack.j0 k a0 a1 t195 bt196.1 bt196.2 (bt196.2 != 0))))) else ((token_Keyword.f k t195).bind fun t202 => (if t202 = a0 then (if bt196.2 = (t195.size : Int) then (if bt196.2 > 0 then (if bt196.1 = a0 then ((token_Keyword.f k t195).bind fun t203 => (if t203 = 0 then (scholiastlaw02_TokenBack.j0 k a0 a1 t195 bt196.1 bt196.2 false) else (scholiastlaw02_TokenBack.j0 k a0 a1 t195 bt196.1 bt196.2 (bt196.2 != 0)))) else (scholiastlaw02_TokenBack.j0 k a0 a1 t195 bt196.1 bt196.2 true)) else ((token_Keyword.f k t195).bind fun t204 => (if t204 = 0 then (scholiastlaw02_TokenBack.j0 k a0 a1 t195 bt196.1 bt196.2 false) else (scholiastlaw02_TokenBack.j0 k a0 a1 t195 bt196.1 bt196.2 (bt196.2 != 0))))) else ((token_Keyword.f k t195).bind fun t205 => (if t205 = 0 then (scholiastlaw02_TokenBack.j0 k a0 a1 t195 bt196.1 bt196.2 false) else (scholiastlaw02_TokenBack.j0 k a0 a1 t195 bt196.1 bt196.2 (bt196.2 != 0))))) else (scholiastlaw02_TokenBack.j0 k a0 a1 t195 bt196.1 bt196.2 true))))))) else (some false)) = some r := H
    have A4 := Aside0.mk A40
    clear A40
    by_cases c5 : t194 = true
    · subst c5
      have H1 : ((token_Name.f k a0).bind fun t195 => ((token_Operator.f k t195).bind fun bt196 => ((token_Keyword.f k t195).bind fun t198 => (if t198 = 0 then (if bt196.2 = (t195.size : Int) then (if bt196.2 > 0 then (if bt196.1 = a0 then ((token_Keyword.f k t195).bind fun t199 => (if t199 = 0 then (scholiastlaw02_TokenBack.j0 k a0 a1 t195 bt196.1 bt196.2 false) else (scholiastlaw02_TokenBack.j0 k a0 a1 t195 bt196.1 bt196.2 (bt196.2 != 0)))) else (scholiastlaw02_TokenBack.j0 k a0 a1 t195 bt196.1 bt196.2 true)) else ((token_Keyword.f k t195).bind fun t200 => (if t200 = 0 then (scholiastlaw02_TokenBack.j0 k a0 a1 t195 bt196.1 bt196.2 false) else (scholiastlaw02_TokenBack.j0 k a0 a1 t195 bt196.1 bt196.2 (bt196.2 != 0))))) else ((token_Keyword.f k t195).bind fun t201 => (if t201 = 0 then (scholiastlaw02_TokenBack.j0 k a0 a1 t195 bt196.1 bt196.2 false) else (scholiastlaw02_TokenBack.j0 k a0 a1 t195 bt196.1 bt196.2 (bt196.2 != 0))))) else ((token_Keyword.f k t195).bind fun t202 => (if t202 = a0 then (if bt196.2 = (t195.size : Int) then (if bt196.2 > 0 then (if bt196.1 = a0 then ((token_Keyword.f k t195).bind fun t203 => (if t203 = 0 then (scholiastlaw02_TokenBack.j0 k a0 a1 t195 bt196.1 bt196.2 false) else (scholiastlaw02_TokenBack.j0 k a0 a1 t195 bt196.1 bt196.2 (bt196.2 != 0)))) else (scholiastlaw02_TokenBack.j0 k a0 a1 t195 bt196.1 bt196.2 true)) else ((token_Keyword.f k t195).bind fun t204 => (if t204 = 0 then (scholiastlaw02_TokenBack.j0 k a0 a1 t195 bt196.1 bt196.2 false) else (scholiastlaw02_TokenBack.j0 k a0 a1 t195 bt196.1 bt196.2 (bt196.2 != 0))))) else ((token_Keyword.f k t195).bind fun t205 => (if t205 = 0 then (scholiastlaw02_TokenBack.j0 k a0 a1 t195 bt196.1 bt196.2 false) else (scholiastlaw02_TokenBack.j0 k a0 a1 t195 bt196.1 bt196.2 (bt196.2 != 0))))) else (scholiastlaw02_TokenBack.j0 k a0 a1 t195 bt196.1 bt196.2 true))))))) = some r := by rw [if_pos rfl] at H; exact H
      clear H
      have H := H1
      clear H1
      replace H := Option.bind_eq_some_iff.mp H
      obtain ⟨t195, A60, H⟩ := H
      replace H : ((token_Operator.f k t195).bind fun bt196 => ((token_Keyword.f k t195).bind fun t198 => (if t198 = 0 then (if bt196.2 = (t195.size : Int) then (if bt196.2 > 0 then (if bt196.1 = a0 then ((token_Keyword.f k t195).bind fun t199 => (if t199 = 0 then (scholiastlaw02_TokenBack.j0 k a0 a1 t195 bt196.1 bt196.2 false) else (scholiastlaw02_TokenBack.j0 k a0 a1 t195 bt196.1 bt196.2 (bt196.2 != 0)))) else (scholiastlaw02_TokenBack.j0 k a0 a1 t195 bt196.1 bt196.2 true)) else ((token_Keyword.f k t195).bind fun t200 => (if t200 = 0 then (scholiastlaw02_TokenBack.j0 k a0 a1 t195 bt196.1 bt196.2 false) else (scholiastlaw02_TokenBack.j0 k a0 a1 t195 bt196.1 bt196.2 (bt196.2 != 0))))) else ((token_Keyword.f k t195).bind fun t201 => (if t201 = 0 then (scholiastlaw02_TokenBack.j0 k a0 a1 t195 bt196.1 bt196.2 false) else (scholiastlaw02_TokenBack.j0 k a0 a1 t195 bt196.1 bt196.2 (bt196.2 != 0))))) else ((token_Keyword.f k t195).bind fun t202 => (if t202 = a0 then (if bt196.2 = (t195.size : Int) then (if bt196.2 > 0 then (if bt196.1 = a0 then ((token_Keyword.f k t195).bind fun t203 => (if t203 = 0 then (scholiastlaw02_TokenBack.j0 k a0 a1 t195 bt196.1 bt196.2 false) else (scholiastlaw02_TokenBack.j0 k a0 a1 t195 bt196.1 bt196.2 (bt196.2 != 0)))) else (scholiastlaw02_TokenBack.j0 k a0 a1 t195 bt196.1 bt196.2 true)) else ((token_Keyword.f k t195).bind fun t204 => (if t204 = 0 then (scholiastlaw02_TokenBack.j0 k a0 a1 t195 bt196.1 bt196.2 false) else (scholiastlaw02_TokenBack.j0 k a0 a1 t195 bt196.1 bt196.2 (bt196.2 != 0))))) else ((token_Keyword.f k t195).bind fun t205 => (if t205 = 0 then (scholiastlaw02_TokenBack.j0 k a0 a1 t195 bt196.1 bt196.2 false) else (scholiastlaw02_TokenBack.j0 k a0 a1 t195 bt196.1 bt196.2 (bt196.2 != 0))))) else (scholiastlaw02_TokenBack.j0 k a0 a1 t195 bt196.1 bt196.2 true)))))) = some r := H
      have A6 := Aside0.mk A60
      clear A60
      replace H := Option.bind_eq_some_iff.mp H
      obtain ⟨⟨t196, t197⟩, A70, H⟩ := H
      replace H : ((token_Keyword.f k t195).bind fun t198 => (if t198 = 0 then (if t197 = (t195.size : Int) then (if t197 > 0 then (if t196 = a0 then ((token_Keyword.f k t195).bind fun t199 => (if t199 = 0 then (scholiastlaw02_TokenBack.j0 k a0 a1 t195 t196 t197 false) else (scholiastlaw02_TokenBack.j0 k a0 a1 t195 t196 t197 (t197 != 0)))) else (scholiastlaw02_TokenBack.j0 k a0 a1 t195 t196 t197 true)) else ((token_Keyword.f k t195).bind fun t200 => (if t200 = 0 then (scholiastlaw02_TokenBack.j0 k a0 a1 t195 t196 t197 false) else (scholiastlaw02_TokenBack.j0 k a0 a1 t195 t196 t197 (t197 != 0))))) else ((token_Keyword.f k t195).bind fun t201 => (if t201 = 0 then (scholiastlaw02_TokenBack.j0 k a0 a1 t195 t196 t197 false) else (scholiastlaw02_TokenBack.j0 k a0 a1 t195 t196 t197 (t197 != 0))))) else ((token_Keyword.f k t195).bind fun t202 => (if t202 = a0 then (if t197 = (t195.size : Int) then (if t197 > 0 then (if t196 = a0 then ((token_Keyword.f k t195).bind fun t203 => (if t203 = 0 then (scholiastlaw02_TokenBack.j0 k a0 a1 t195 t196 t197 false) else (scholiastlaw02_TokenBack.j0 k a0 a1 t195 t196 t197 (t197 != 0)))) else (scholiastlaw02_TokenBack.j0 k a0 a1 t195 t196 t197 true)) else ((token_Keyword.f k t195).bind fun t204 => (if t204 = 0 then (scholiastlaw02_TokenBack.j0 k a0 a1 t195 t196 t197 false) else (scholiastlaw02_TokenBack.j0 k a0 a1 t195 t196 t197 (t197 != 0))))) else ((token_Keyword.f k t195).bind fun t205 => (if t205 = 0 then (scholiastlaw02_TokenBack.j0 k a0 a1 t195 t196 t197 false) else (scholiastlaw02_TokenBack.j0 k a0 a1 t195 t196 t197 (t197 != 0))))) else (scholiastlaw02_TokenBack.j0 k a0 a1 t195 t196 t197 true))))) = some r := H
      have A7 := Aside0.mk A70
      clear A70
      have HC8 := Aside0.mk H
      clear H
      go_enter Tryd.func8, Tryd.ntmps8
      go_upto_region 7 with (first | ((with_reducible refine gate_callee (f := 10) rfl ?_); refine goesL_ (some 14) rfl rfl Tryd.func10 (by kernel_rfl) rfl #[] rfl (by (try simp only [List.map_toArray, List.map_cons, List.map_nil]); first | done | rfl | (simp only [List.length_drop, List.length_take]; rfl) | (rw [extract_all]; rfl)) ?_; (with_reducible refine (scholiastlaw02_shown.calls k  true _ ?side1 A4.out).mono ?_); (case side1 => exact Tabs.below HT (by repeat (first | (with_reducible first | exact HB.out | apply below_alloc | apply pw_below_drewN | apply below_drew1) | exact HB.out))); rintro e w9 ⟨rfl, hb⟩; refine ⟨_, rfl, ?_⟩; have n0_ := Aside0.mk (below_step (by repeat (first | (with_reducible first | exact HB.out | apply below_alloc | apply pw_below_drewN | apply below_drew1) | exact HB.out)) hb); clear HB; have HB := n0_; clear n0_; (try clear hb); (try clear hb2); (try clear hk); (try clear hi)) | ((with_reducible refine gate_callee (f := 21) rfl ?_); refine goesL_ (some 17) rfl rfl Tryd.func21 (by kernel_rfl) rfl #[.int .i64 a0] rfl (by (try simp only [List.map_toArray, List.map_cons, List.map_nil]); first | done | rfl | (simp only [List.length_drop, List.length_take]; rfl) | (rw [extract_all]; rfl)) ?_; (with_reducible refine (token_Name.calls k a0 t195 _ A6.out).mono ?_); rintro e w10 ⟨rfl, hb⟩; refine ⟨_, rfl, ?_⟩; have n0_ := Aside0.mk (below_step (by repeat (first | (with_reducible first | exact HB.out | apply below_alloc | apply pw_below_drewN | apply below_drew1) | exact HB.out)) hb); clear HB; have HB := n0_; clear n0_; (try clear hb); (try clear hb2); (try clear hk); (try clear hi)) | ((with_reducible refine gate_callee (f := 11) rfl ?_); refine goesL_ (some 20) rfl rfl Tryd.func11 (by kernel_rfl) rfl #[.string t195] rfl (by (try simp only [List.map_toArray, List.map_cons, List.map_nil]); first | done | rfl | (simp only [List.length_drop, List.length_take]; rfl) | (rw [extract_all]; rfl)) ?_; (with_reducible refine (token_Operator.calls k t195 t196 t197 _ A7.out).mono ?_); rintro e w11 ⟨rfl, hb⟩; refine ⟨_, rfl, ?_⟩; have n0_ := Aside0.mk (below_step (by repeat (first | (with_reducible first | exact HB.out | apply below_alloc | apply pw_below_drewN | apply below_drew1) | exact HB.out)) hb); clear HB; have HB := n0_; clear n0_; (try clear hb); (try clear hb2); (try clear hk); (try clear hi)))
      (try simp only [Act.put, List.setIfInBounds_toArray, List.set_cons_zero, List.set_cons_succ])
      go_cut [55] (fun v55 wc => ∃ (kq : Nat) (x55_7 : Bool), v55 = .bool x55_7 ∧ Aside0 (scholiastlaw02_TokenBack.j0 kq a0 a1 t195 t196 t197 x55_7 = some r) ∧ Aside0 (kq ≤ k) ∧ Aside0 (Below w.heap.size w wc))
      case first =>
        have H := HC8.out
        clear HC8
        replace H := Option.bind_eq_some_iff.mp H
        obtain ⟨t198, A120, H⟩ := H
        replace H : (if t198 = 0 then (if t197 = (t195.size : Int) then (if t197 > 0 then (if t196 = a0 then ((token_Keyword.f k t195).bind fun t199 => (if t199 = 0 then (scholiastlaw02_TokenBack.j0 k a0 a1 t195 t196 t197 false) else (scholiastlaw02_TokenBack.j0 k a0 a1 t195 t196 t197 (t197 != 0)))) else (scholiastlaw02_TokenBack.j0 k a0 a1 t195 t196 t197 true)) else ((token_Keyword.f k t195).bind fun t200 => (if t200 = 0 then (scholiastlaw02_TokenBack.j0 k a0 a1 t195 t196 t197 false) else (scholiastlaw02_TokenBack.j0 k a0 a1 t195 t196 t197 (t197 != 0))))) else ((token_Keyword.f k t195).bind fun t201 => (if t201 = 0 then (scholiastlaw02_TokenBack.j0 k a0 a1 t195 t196 t197 false) else (scholiastlaw02_TokenBack.j0 k a0 a1 t195 t196 t197 (t197 != 0))))) else ((token_Keyword.f k t195).bind fun t202 => (if t202 = a0 then (if t197 = (t195.size : Int) then (if t197 > 0 then (if t196 = a0 then ((token_Keyword.f k t195).bind fun t203 => (if t203 = 0 then (scholiastlaw02_TokenBack.j0 k a0 a1 t195 t196 t197 false) else (scholiastlaw02_TokenBack.j0 k a0 a1 t195 t196 t197 (t197 != 0)))) else (scholiastlaw02_TokenBack.j0 k a0 a1 t195 t196 t197 true)) else ((token_Keyword.f k t195).bind fun t204 => (if t204 = 0 then (scholiastlaw02_TokenBack.j0 k a0 a1 t195 t196 t197 false) else (scholiastlaw02_TokenBack.j0 k a0 a1 t195 t196 t197 (t197 != 0))))) else ((token_Keyword.f k t195).bind fun t205 => (if t205 = 0 then (scholiastlaw02_TokenBack.j0 k a0 a1 t195 t196 t197 false) else (scholiastlaw02_TokenBack.j0 k a0 a1 t195 t196 t197 (t197 != 0))))) else (scholiastlaw02_TokenBack.j0 k a0 a1 t195 t196 t197 true)))) = some r := H
        have A12 := Aside0.mk A120
        clear A120
        by_cases c13 : t198 = 0
        · rw [if_pos c13] at H
          have c13b0 : (t198 == 0) = true := beq_iff_eq.mpr c13
          have c13b1 : (t198 != 0) = false := bne_eq_false_iff_eq.mpr c13
          clear c13
          (first | rw [c13b0] | (simp only [i64_w, i32_w]; rw [c13b0]) | skip)
          by_cases c14 : t197 = (t195.size : Int)
          · rw [if_pos c14] at H
            have c14b0 : (t197 == (t195.size : Int)) = true := beq_iff_eq.mpr c14
            have c14b1 : (t197 != (t195.size : Int)) = false := bne_eq_false_iff_eq.mpr c14
            clear c14
            by_cases c15 : t197 > 0
            · rw [if_pos c15] at H
              have c15b0 : decide (0 < t197) = true := decide_eq_true c15
              clear c15
              by_cases c16 : t196 = a0
              · rw [if_pos c16] at H
                have c16b0 : (t196 == a0) = true := beq_iff_eq.mpr c16
                have c16b1 : (t196 != a0) = false := bne_eq_false_iff_eq.mpr c16
                clear c16
                replace H := Option.bind_eq_some_iff.mp H
                obtain ⟨t199, A170, H⟩ := H
                obtain rfl : t198 = t199 := Option.some.inj (A12.out.symm.trans A170)
                replace H : (if t198 = 0 then (scholiastlaw02_TokenBack.j0 k a0 a1 t195 t196 t197 false) else (scholiastlaw02_TokenBack.j0 k a0 a1 t195 t196 t197 (t197 != 0))) = some r := H
                have A17 := Aside0.mk A170
                clear A170
                by_cases c18 : t198 = 0
                · rw [if_pos c18] at H
                  have c18b0 : (t198 == 0) = true := beq_iff_eq.mpr c18
                  have c18b1 : (t198 != 0) = false := bne_eq_false_iff_eq.mpr c18
                  clear c18
                  have H' := Aside0.mk H
                  clear H
                  go_wp2_with (first | ((with_reducible refine gate_callee (f := 13) rfl ?_); refine goesL_ (some 24) rfl rfl Tryd.func13 (by kernel_rfl) rfl #[.string t195] rfl (by (try simp only [List.map_toArray, List.map_cons, List.map_nil]); first | done | rfl | (simp only [List.length_drop, List.length_take]; rfl) | (rw [extract_all]; rfl)) ?_; (with_reducible refine (token_Keyword.calls k t195 t198 _ A12.out).mono ?_); rintro e w19 ⟨rfl, hb⟩; refine ⟨_, rfl, ?_⟩; have n0_ := Aside0.mk (below_step (by repeat (first | (with_reducible first | exact HB.out | apply below_alloc | apply pw_below_drewN | apply below_drew1) | exact HB.out)) hb); clear HB; have HB := n0_; clear n0_; (try clear hb); (try clear hb2); (try clear hk); (try clear hi)) | (go_at_call 13; (with_reducible refine (token_Keyword.calls k t195 t198 _ A17.out).mono ?_); rintro e w20 ⟨rfl, hb⟩; have n0_ := Aside0.mk (below_step (by repeat (first | (with_reducible first | exact HB.out | apply below_alloc | apply pw_below_drewN | apply below_drew1) | exact HB.out)) hb); clear HB; have HB := n0_; clear n0_; (try clear hb); (try clear hb2); (try clear hk); (try clear hi)))
                  go_meet
                  case rel => exact ⟨_, (false), (by first | rfl | (simp; done) | (simp [*]; done) | (simp [wrap64]; done) | (simp [isEmpty_bne]; done)), H', ⟨by first | omega | exact Nat.le_refl _⟩, ⟨by repeat (first | (with_reducible first | exact HB.out | apply below_alloc | apply pw_below_drewN | apply below_drew1) | exact HB.out)⟩⟩
                · rw [if_neg c18] at H
                  exfalso
                  simp [c18] at c13b0
              · rw [if_neg c16] at H
                have c16b0 : (t196 == a0) = false := beq_eq_false_iff_ne.mpr c16
                have c16b1 : (t196 != a0) = true := bne_iff_ne.mpr c16
                have H' := Aside0.mk H
                clear H
                go_wp2_with (first | ((with_reducible refine gate_callee (f := 13) rfl ?_); refine goesL_ (some 24) rfl rfl Tryd.func13 (by kernel_rfl) rfl #[.string t195] rfl (by (try simp only [List.map_toArray, List.map_cons, List.map_nil]); first | done | rfl | (simp only [List.length_drop, List.length_take]; rfl) | (rw [extract_all]; rfl)) ?_; (with_reducible refine (token_Keyword.calls k t195 t198 _ A12.out).mono ?_); rintro e w21 ⟨rfl, hb⟩; refine ⟨_, rfl, ?_⟩; have n0_ := Aside0.mk (below_step (by repeat (first | (with_reducible first | exact HB.out | apply below_alloc | apply pw_below_drewN | apply below_drew1) | exact HB.out)) hb); clear HB; have HB := n0_; clear n0_; (try clear hb); (try clear hb2); (try clear hk); (try clear hi)))
                go_meet
                case rel => exact ⟨_, (true), (by first | rfl | (simp; done) | (simp [*]; done) | (simp [wrap64]; done) | (simp [isEmpty_bne]; done)), H', ⟨by first | omega | exact Nat.le_refl _⟩, ⟨by repeat (first | (with_reducible first | exact HB.out | apply below_alloc | apply pw_below_drewN | apply below_drew1) | exact HB.out)⟩⟩
            · rw [if_neg c15] at H
              have c15b0 : decide (0 < t197) = false := decide_eq_false c15
              clear c15
              replace H := Option.bind_eq_some_iff.mp H
              obtain ⟨t200, A220, H⟩ := H
              obtain rfl : t198 = t200 := Option.some.inj (A12.out.symm.trans A220)
              replace H : (if t198 = 0 then (scholiastlaw02_TokenBack.j0 k a0 a1 t195 t196 t197 false) else (scholiastlaw02_TokenBack.j0 k a0 a1 t195 t196 t197 (t197 != 0))) = some r := H
              have A22 := Aside0.mk A220
              clear A220
              by_cases c23 : t198 = 0
              · rw [if_pos c23] at H
                have c23b0 : (t198 == 0) = true := beq_iff_eq.mpr c23
                have c23b1 : (t198 != 0) = false := bne_eq_false_iff_eq.mpr c23
                clear c23
                have H' := Aside0.mk H
                clear H
                go_wp2_with (first | ((with_reducible refine gate_callee (f := 13) rfl ?_); refine goesL_ (some 24) rfl rfl Tryd.func13 (by kernel_rfl) rfl #[.string t195] rfl (by (try simp only [List.map_toArray, List.map_cons, List.map_nil]); first | done | rfl | (simp only [List.length_drop, List.length_take]; rfl) | (rw [extract_all]; rfl)) ?_; (with_reducible refine (token_Keyword.calls k t195 t198 _ A12.out).mono ?_); rintro e w24 ⟨rfl, hb⟩; refine ⟨_, rfl, ?_⟩; have n0_ := Aside0.mk (below_step (by repeat (first | (with_reducible first | exact HB.out | apply below_alloc | apply pw_below_drewN | apply below_drew1) | exact HB.out)) hb); clear HB; have HB := n0_; clear n0_; (try clear hb); (try clear hb2); (try clear hk); (try clear hi)) | (go_at_call 13; (with_reducible refine (token_Keyword.calls k t195 t198 _ A22.out).mono ?_); rintro e w25 ⟨rfl, hb⟩; have n0_ := Aside0.mk (below_step (by repeat (first | (with_reducible first | exact HB.out | apply below_alloc | apply pw_below_drewN | apply below_drew1) | exact HB.out)) hb); clear HB; have HB := n0_; clear n0_; (try clear hb); (try clear hb2); (try clear hk); (try clear hi)))
                go_meet
                case rel => exact ⟨_, (false), (by first | rfl | (simp; done) | (simp [*]; done) | (simp [wrap64]; done) | (simp [isEmpty_bne]; done)), H', ⟨by first | omega | exact Nat.le_refl _⟩, ⟨by repeat (first | (with_reducible first | exact HB.out | apply below_alloc | apply pw_below_drewN | apply below_drew1) | exact HB.out)⟩⟩
              · rw [if_neg c23] at H
                exfalso
                simp [c23] at c13b0
          · rw [if_neg c14] at H
            have c14b0 : (t197 == (t195.size : Int)) = false := beq_eq_false_iff_ne.mpr c14
            have c14b1 : (t197 != (t195.size : Int)) = true := bne_iff_ne.mpr c14
            replace H := Option.bind_eq_some_iff.mp H
            obtain ⟨t201, A260, H⟩ := H
            obtain rfl : t198 = t201 := Option.some.inj (A12.out.symm.trans A260)
            replace H : (if t198 = 0 then (scholiastlaw02_TokenBack.j0 k a0 a1 t195 t196 t197 false) else (scholiastlaw02_TokenBack.j0 k a0 a1 t195 t196 t197 (t197 != 0))) = some r := H
            have A26 := Aside0.mk A260
            clear A260
            by_cases c27 : t198 = 0
            · rw [if_pos c27] at H
              have c27b0 : (t198 == 0) = true := beq_iff_eq.mpr c27
              have c27b1 : (t198 != 0) = false := bne_eq_false_iff_eq.mpr c27
              clear c27
              have H' := Aside0.mk H
              clear H
              go_wp2_with (first | ((with_reducible refine gate_callee (f := 13) rfl ?_); refine goesL_ (some 24) rfl rfl Tryd.func13 (by kernel_rfl) rfl #[.string t195] rfl (by (try simp only [List.map_toArray, List.map_cons, List.map_nil]); first | done | rfl | (simp only [List.length_drop, List.length_take]; rfl) | (rw [extract_all]; rfl)) ?_; (with_reducible refine (token_Keyword.calls k t195 t198 _ A12.out).mono ?_); rintro e w28 ⟨rfl, hb⟩; refine ⟨_, rfl, ?_⟩; have n0_ := Aside0.mk (below_step (by repeat (first | (with_reducible first | exact HB.out | apply below_alloc | apply pw_below_drewN | apply below_drew1) | exact HB.out)) hb); clear HB; have HB := n0_; clear n0_; (try clear hb); (try clear hb2); (try clear hk); (try clear hi)) | (go_at_call 13; (with_reducible refine (token_Keyword.calls k t195 t198 _ A26.out).mono ?_); rintro e w29 ⟨rfl, hb⟩; have n0_ := Aside0.mk (below_step (by repeat (first | (with_reducible first | exact HB.out | apply below_alloc | apply pw_below_drewN | apply below_drew1) | exact HB.out)) hb); clear HB; have HB := n0_; clear n0_; (try clear hb); (try clear hb2); (try clear hk); (try clear hi)))
              go_meet
              case rel => exact ⟨_, (false), (by first | rfl | (simp; done) | (simp [*]; done) | (simp [wrap64]; done) | (simp [isEmpty_bne]; done)), H', ⟨by first | omega | exact Nat.le_refl _⟩, ⟨by repeat (first | (with_reducible first | exact HB.out | apply below_alloc | apply pw_below_drewN | apply below_drew1) | exact HB.out)⟩⟩
            · rw [if_neg c27] at H
              exfalso
              simp [c27] at c13b0
        · rw [if_neg c13] at H
          have c13b0 : (t198 == 0) = false := beq_eq_false_iff_ne.mpr c13
          have c13b1 : (t198 != 0) = true := bne_iff_ne.mpr c13
          (first | rw [c13b0] | (simp only [i64_w, i32_w]; rw [c13b0]) | skip)
          replace H := Option.bind_eq_some_iff.mp H
          obtain ⟨t202, A300, H⟩ := H
          obtain rfl : t198 = t202 := Option.some.inj (A12.out.symm.trans A300)
          replace H : (if t198 = a0 then (if t197 = (t195.size : Int) then (if t197 > 0 then (if t196 = a0 then ((token_Keyword.f k t195).bind fun t203 => (if t203 = 0 then (scholiastlaw02_TokenBack.j0 k a0 a1 t195 t196 t197 false) else (scholiastlaw02_TokenBack.j0 k a0 a1 t195 t196 t197 (t197 != 0)))) else (scholiastlaw02_TokenBack.j0 k a0 a1 t195 t196 t197 true)) else ((token_Keyword.f k t195).bind fun t204 => (if t204 = 0 then (scholiastlaw02_TokenBack.j0 k a0 a1 t195 t196 t197 false) else (scholiastlaw02_TokenBack.j0 k a0 a1 t195 t196 t197 (t197 != 0))))) else ((token_Keyword.f k t195).bind fun t205 => (if t205 = 0 then (scholiastlaw02_TokenBack.j0 k a0 a1 t195 t196 t197 false) else (scholiastlaw02_TokenBack.j0 k a0 a1 t195 t196 t197 (t197 != 0))))) else (scholiastlaw02_TokenBack.j0 k a0 a1 t195 t196 t197 true)) = some r := H
          have A30 := Aside0.mk A300
          clear A300
          by_cases c31 : t198 = a0
          · rw [if_pos c31] at H
            have c31b0 : (t198 == a0) = true := beq_iff_eq.mpr c31
            have c31b1 : (t198 != a0) = false := bne_eq_false_iff_eq.mpr c31
            clear c31
            by_cases c32 : t197 = (t195.size : Int)
            · rw [if_pos c32] at H
              have c32b0 : (t197 == (t195.size : Int)) = true := beq_iff_eq.mpr c32
              have c32b1 : (t197 != (t195.size : Int)) = false := bne_eq_false_iff_eq.mpr c32
              clear c32
              by_cases c33 : t197 > 0
              · rw [if_pos c33] at H
                have c33b0 : decide (0 < t197) = true := decide_eq_true c33
                clear c33
                by_cases c34 : t196 = a0
                · rw [if_pos c34] at H
                  have c34b0 : (t196 == a0) = true := beq_iff_eq.mpr c34
                  have c34b1 : (t196 != a0) = false := bne_eq_false_iff_eq.mpr c34
                  clear c34
                  replace H := Option.bind_eq_some_iff.mp H
                  obtain ⟨t203, A350, H⟩ := H
                  obtain rfl : t198 = t203 := Option.some.inj (A30.out.symm.trans A350)
                  replace H : (if t198 = 0 then (scholiastlaw02_TokenBack.j0 k a0 a1 t195 t196 t197 false) else (scholiastlaw02_TokenBack.j0 k a0 a1 t195 t196 t197 (t197 != 0))) = some r := H
                  have A35 := Aside0.mk A350
                  clear A350
                  by_cases c36 : t198 = 0
                  · rw [if_pos c36] at H
                    exfalso
                    simp [c36] at c13b0
                  · rw [if_neg c36] at H
                    have c36b0 : (t198 == 0) = false := beq_eq_false_iff_ne.mpr c36
                    have c36b1 : (t198 != 0) = true := bne_iff_ne.mpr c36
                    have H' := Aside0.mk H
                    clear H
                    go_wp2_with (first | ((with_reducible refine gate_callee (f := 13) rfl ?_); refine goesL_ (some 24) rfl rfl Tryd.func13 (by kernel_rfl) rfl #[.string t195] rfl (by (try simp only [List.map_toArray, List.map_cons, List.map_nil]); first | done | rfl | (simp only [List.length_drop, List.length_take]; rfl) | (rw [extract_all]; rfl)) ?_; (with_reducible refine (token_Keyword.calls k t195 t198 _ A12.out).mono ?_); rintro e w37 ⟨rfl, hb⟩; refine ⟨_, rfl, ?_⟩; have n0_ := Aside0.mk (below_step (by repeat (first | (with_reducible first | exact HB.out | apply below_alloc | apply pw_below_drewN | apply below_drew1) | exact HB.out)) hb); clear HB; have HB := n0_; clear n0_; (try clear hb); (try clear hb2); (try clear hk); (try clear hi)) | (go_at_call 13; (with_reducible refine (token_Keyword.calls k t195 t198 _ A30.out).mono ?_); rintro e w38 ⟨rfl, hb⟩; have n0_ := Aside0.mk (below_step (by repeat (first | (with_reducible first | exact HB.out | apply below_alloc | apply pw_below_drewN | apply below_drew1) | exact HB.out)) hb); clear HB; have HB := n0_; clear n0_; (try clear hb); (try clear hb2); (try clear hk); (try clear hi)) | (go_at_call 13; (with_reducible refine (token_Keyword.calls k t195 t198 _ A35.out).mono ?_); rintro e w39 ⟨rfl, hb⟩; have n0_ := Aside0.mk (below_step (by repeat (first | (with_reducible first | exact HB.out | apply below_alloc | apply pw_below_drewN | apply below_drew1) | exact HB.out)) hb); clear HB; have HB := n0_; clear n0_; (try clear hb); (try clear hb2); (try clear hk); (try clear hi)))
                    go_meet
                    case rel => exact ⟨_, ((t197 != 0)), (by first | rfl | (simp; done) | (simp [*]; done) | (simp [wrap64]; done) | (simp [isEmpty_bne]; done)), H', ⟨by first | omega | exact Nat.le_refl _⟩, ⟨by repeat (first | (with_reducible first | exact HB.out | apply below_alloc | apply pw_below_drewN | apply below_drew1) | exact HB.out)⟩⟩
                · rw [if_neg c34] at H
                  have c34b0 : (t196 == a0) = false := beq_eq_false_iff_ne.mpr c34
                  have c34b1 : (t196 != a0) = true := bne_iff_ne.mpr c34
                  have H' := Aside0.mk H
                  clear H
                  go_wp2_with (first | ((with_reducible refine gate_callee (f := 13) rfl ?_); refine goesL_ (some 24) rfl rfl Tryd.func13 (by kernel_rfl) rfl #[.string t195] rfl (by (try simp only [List.map_toArray, List.map_cons, List.map_nil]); first | done | rfl | (simp only [List.length_drop, List.length_take]; rfl) | (rw [extract_all]; rfl)) ?_; (with_reducible refine (token_Keyword.calls k t195 t198 _ A12.out).mono ?_); rintro e w40 ⟨rfl, hb⟩; refine ⟨_, rfl, ?_⟩; have n0_ := Aside0.mk (below_step (by repeat (first | (with_reducible first | exact HB.out | apply below_alloc | apply pw_below_drewN | apply below_drew1) | exact HB.out)) hb); clear HB; have HB := n0_; clear n0_; (try clear hb); (try clear hb2); (try clear hk); (try clear hi)) | (go_at_call 13; (with_reducible refine (token_Keyword.calls k t195 t198 _ A30.out).mono ?_); rintro e w41 ⟨rfl, hb⟩; have n0_ := Aside0.mk (below_step (by repeat (first | (with_reducible first | exact HB.out | apply below_alloc | apply pw_below_drewN | apply below_drew1) | exact HB.out)) hb); clear HB; have HB := n0_; clear n0_; (try clear hb); (try clear hb2); (try clear hk); (try clear hi)))
                  go_meet
                  case rel => exact ⟨_, (true), (by first | rfl | (simp; done) | (simp [*]; done) | (simp [wrap64]; done) | (simp [isEmpty_bne]; done)), H', ⟨by first | omega | exact Nat.le_refl _⟩, ⟨by repeat (first | (with_reducible first | exact HB.out | apply below_alloc | apply pw_below_drewN | apply below_drew1) | exact HB.out)⟩⟩
              · rw [if_neg c33] at H
                have c33b0 : decide (0 < t197) = false := decide_eq_false c33
                clear c33
                replace H := Option.bind_eq_some_iff.mp H
                obtain ⟨t204, A420, H⟩ := H
                obtain rfl : t198 = t204 := Option.some.inj (A30.out.symm.trans A420)
                replace H : (if t198 = 0 then (scholiastlaw02_TokenBack.j0 k a0 a1 t195 t196 t197 false) else (scholiastlaw02_TokenBack.j0 k a0 a1 t195 t196 t197 (t197 != 0))) = some r := H
                have A42 := Aside0.mk A420
                clear A420
                by_cases c43 : t198 = 0
                · rw [if_pos c43] at H
                  exfalso
                  simp [c43] at c13b0
                · rw [if_neg c43] at H
                  have c43b0 : (t198 == 0) = false := beq_eq_false_iff_ne.mpr c43
                  have c43b1 : (t198 != 0) = true := bne_iff_ne.mpr c43
                  have H' := Aside0.mk H
                  clear H
                  go_wp2_with (first | ((with_reducible refine gate_callee (f := 13) rfl ?_); refine goesL_ (some 24) rfl rfl Tryd.func13 (by kernel_rfl) rfl #[.string t195] rfl (by (try simp only [List.map_toArray, List.map_cons, List.map_nil]); first | done | rfl | (simp only [List.length_drop, List.length_take]; rfl) | (rw [extract_all]; rfl)) ?_; (with_reducible refine (token_Keyword.calls k t195 t198 _ A12.out).mono ?_); rintro e w44 ⟨rfl, hb⟩; refine ⟨_, rfl, ?_⟩; have n0_ := Aside0.mk (below_step (by repeat (first | (with_reducible first | exact HB.out | apply below_alloc | apply pw_below_drewN | apply below_drew1) | exact HB.out)) hb); clear HB; have HB := n0_; clear n0_; (try clear hb); (try clear hb2); (try clear hk); (try clear hi)) | (go_at_call 13; (with_reducible refine (token_Keyword.calls k t195 t198 _ A30.out).mono ?_); rintro e w45 ⟨rfl, hb⟩; have n0_ := Aside0.mk (below_step (by repeat (first | (with_reducible first | exact HB.out | apply below_alloc | apply pw_below_drewN | apply below_drew1) | exact HB.out)) hb); clear HB; have HB := n0_; clear n0_; (try clear hb); (try clear hb2); (try clear hk); (try clear hi)) | (go_at_call 13; (with_reducible refine (token_Keyword.calls k t195 t198 _ A42.out).mono ?_); rintro e w46 ⟨rfl, hb⟩; have n0_ := Aside0.mk (below_step (by repeat (first | (with_reducible first | exact HB.out | apply below_alloc | apply pw_below_drewN | apply below_drew1) | exact HB.out)) hb); clear HB; have HB := n0_; clear n0_; (try clear hb); (try clear hb2); (try clear hk); (try clear hi)))
                  go_meet
                  case rel => exact ⟨_, ((t197 != 0)), (by first | rfl | (simp; done) | (simp [*]; done) | (simp [wrap64]; done) | (simp [isEmpty_bne]; done)), H', ⟨by first | omega | exact Nat.le_refl _⟩, ⟨by repeat (first | (with_reducible first | exact HB.out | apply below_alloc | apply pw_below_drewN | apply below_drew1) | exact HB.out)⟩⟩
            · rw [if_neg c32] at H
              have c32b0 : (t197 == (t195.size : Int)) = false := beq_eq_false_iff_ne.mpr c32
              have c32b1 : (t197 != (t195.size : Int)) = true := bne_iff_ne.mpr c32
              replace H := Option.bind_eq_some_iff.mp H
              obtain ⟨t205, A470, H⟩ := H
              obtain rfl : t198 = t205 := Option.some.inj (A30.out.symm.trans A470)
              replace H : (if t198 = 0 then (scholiastlaw02_TokenBack.j0 k a0 a1 t195 t196 t197 false) else (scholiastlaw02_TokenBack.j0 k a0 a1 t195 t196 t197 (t197 != 0))) = some r := H
              have A47 := Aside0.mk A470
              clear A470
              by_cases c48 : t198 = 0
              · rw [if_pos c48] at H
                exfalso
                simp [c48] at c13b0
              · rw [if_neg c48] at H
                have c48b0 : (t198 == 0) = false := beq_eq_false_iff_ne.mpr c48
                have c48b1 : (t198 != 0) = true := bne_iff_ne.mpr c48
                have H' := Aside0.mk H
                clear H
                go_wp2_with (first | ((with_reducible refine gate_callee (f := 13) rfl ?_); refine goesL_ (some 24) rfl rfl Tryd.func13 (by kernel_rfl) rfl #[.string t195] rfl (by (try simp only [List.map_toArray, List.map_cons, List.map_nil]); first | done | rfl | (simp only [List.length_drop, List.length_take]; rfl) | (rw [extract_all]; rfl)) ?_; (with_reducible refine (token_Keyword.calls k t195 t198 _ A12.out).mono ?_); rintro e w49 ⟨rfl, hb⟩; refine ⟨_, rfl, ?_⟩; have n0_ := Aside0.mk (below_step (by repeat (first | (with_reducible first | exact HB.out | apply below_alloc | apply pw_below_drewN | apply below_drew1) | exact HB.out)) hb); clear HB; have HB := n0_; clear n0_; (try clear hb); (try clear hb2); (try clear hk); (try clear hi)) | (go_at_call 13; (with_reducible refine (token_Keyword.calls k t195 t198 _ A30.out).mono ?_); rintro e w50 ⟨rfl, hb⟩; have n0_ := Aside0.mk (below_step (by repeat (first | (with_reducible first | exact HB.out | apply below_alloc | apply pw_below_drewN | apply below_drew1) | exact HB.out)) hb); clear HB; have HB := n0_; clear n0_; (try clear hb); (try clear hb2); (try clear hk); (try clear hi)) | (go_at_call 13; (with_reducible refine (token_Keyword.calls k t195 t198 _ A47.out).mono ?_); rintro e w51 ⟨rfl, hb⟩; have n0_ := Aside0.mk (below_step (by repeat (first | (with_reducible first | exact HB.out | apply below_alloc | apply pw_below_drewN | apply below_drew1) | exact HB.out)) hb); clear HB; have HB := n0_; clear n0_; (try clear hb); (try clear hb2); (try clear hk); (try clear hi)))
                go_meet
                case rel => exact ⟨_, ((t197 != 0)), (by first | rfl | (simp; done) | (simp [*]; done) | (simp [wrap64]; done) | (simp [isEmpty_bne]; done)), H', ⟨by first | omega | exact Nat.le_refl _⟩, ⟨by repeat (first | (with_reducible first | exact HB.out | apply below_alloc | apply pw_below_drewN | apply below_drew1) | exact HB.out)⟩⟩
          · rw [if_neg c31] at H
            have c31b0 : (t198 == a0) = false := beq_eq_false_iff_ne.mpr c31
            have c31b1 : (t198 != a0) = true := bne_iff_ne.mpr c31
            have H' := Aside0.mk H
            clear H
            go_wp2_with (first | ((with_reducible refine gate_callee (f := 13) rfl ?_); refine goesL_ (some 24) rfl rfl Tryd.func13 (by kernel_rfl) rfl #[.string t195] rfl (by (try simp only [List.map_toArray, List.map_cons, List.map_nil]); first | done | rfl | (simp only [List.length_drop, List.length_take]; rfl) | (rw [extract_all]; rfl)) ?_; (with_reducible refine (token_Keyword.calls k t195 t198 _ A12.out).mono ?_); rintro e w52 ⟨rfl, hb⟩; refine ⟨_, rfl, ?_⟩; have n0_ := Aside0.mk (below_step (by repeat (first | (with_reducible first | exact HB.out | apply below_alloc | apply pw_below_drewN | apply below_drew1) | exact HB.out)) hb); clear HB; have HB := n0_; clear n0_; (try clear hb); (try clear hb2); (try clear hk); (try clear hi)) | (go_at_call 13; (with_reducible refine (token_Keyword.calls k t195 t198 _ A30.out).mono ?_); rintro e w53 ⟨rfl, hb⟩; have n0_ := Aside0.mk (below_step (by repeat (first | (with_reducible first | exact HB.out | apply below_alloc | apply pw_below_drewN | apply below_drew1) | exact HB.out)) hb); clear HB; have HB := n0_; clear n0_; (try clear hb); (try clear hb2); (try clear hk); (try clear hi)))
            go_meet
            case rel => exact ⟨_, (true), (by first | rfl | (simp; done) | (simp [*]; done) | (simp [wrap64]; done) | (simp [isEmpty_bne]; done)), H', ⟨by first | omega | exact Nat.le_refl _⟩, ⟨by repeat (first | (with_reducible first | exact HB.out | apply below_alloc | apply pw_below_drewN | apply below_drew1) | exact HB.out)⟩⟩
      case rest =>
        clear HC8
        try clear c1
        try clear c2
        try clear p2
        try clear c3
        try clear c3b0
        try clear c3b1
        try clear c4
        try clear c5
        try clear p6
        try clear c8
        try clear c10
        try clear c11
        try clear c13
        try clear c13b0
        try clear c13b1
        try clear c14
        try clear c14b0
        try clear c14b1
        try clear c15
        try clear c15b0
        try clear c16
        try clear c16b0
        try clear c16b1
        try clear c18
        try clear c18b0
        try clear c18b1
        try clear c21
        try clear c23
        try clear c23b0
        try clear c23b1
        try clear c27
        try clear c27b0
        try clear c27b1
        try clear c31
        try clear c31b0
        try clear c31b1
        try clear c32
        try clear c32b0
        try clear c32b1
        try clear c33
        try clear c33b0
        try clear c34
        try clear c34b0
        try clear c34b1
        try clear c36
        try clear c36b0
        try clear c36b1
        try clear c43
        try clear c43b0
        try clear c43b1
        try clear c48
        try clear c48b0
        try clear c48b1
        obtain ⟨kq, x55_7, rfl, HA, HJ7, HB⟩ := hcut
        cases kq with
        | zero => exact absurd HA.out (by simp [scholiastlaw02_TokenBack.j0])
        | succ kj7 =>
          have H := HA.out
          clear HA
          simp only [scholiastlaw02_TokenBack.j0] at H
          by_cases c54 : x55_7 = true
          · subst c54
            have H1 : (some false) = some r := by rw [if_pos rfl] at H; exact H
            clear H
            have H := H1
            clear H1
            obtain rfl := Option.some.inj H
            go_wp2
            go_ret
            exact ⟨by first | rfl | (simp [errW_none, errW_some] <;> rfl) | (simp [*, errW_none, errW_some] <;> rfl), by repeat (first | (with_reducible first | exact HB.out | apply below_alloc | apply pw_below_drewN | apply below_drew1) | exact HB.out)⟩
          · replace c54 := Bool.eq_false_iff.mpr c54
            subst c54
            have H1 : (if t196 > 0 then (scholiastlaw02_TokenBack.j1 kj7 a0 a1 t195 t197 (t197 == (t195.size : Int))) else (scholiastlaw02_TokenBack.j1 kj7 a0 a1 t195 t197 false)) = some r := by rw [if_neg (show ¬ (false = true) by decide)] at H; exact H
            clear H
            have H := H1
            clear H1
            have HC55 := Aside0.mk H
            clear H
            go_upto_region 9 with (fail)
            go_cut [63] (fun v63 wc => ∃ (kq : Nat) (x63_54 : Bool), v63 = .bool x63_54 ∧ Aside0 (scholiastlaw02_TokenBack.j1 kq a0 a1 t195 t197 x63_54 = some r) ∧ Aside0 (kq ≤ kj7) ∧ Aside0 (Below w.heap.size w wc))
            case first =>
              have H := HC55.out
              clear HC55
              by_cases c56 : t196 > 0
              · rw [if_pos c56] at H
                have c56b0 : decide (0 < t196) = true := decide_eq_true c56
                clear c56
                (first | rw [c56b0] | (simp only [i64_w, i32_w]; rw [c56b0]) | skip)
                have H' := Aside0.mk H
                clear H
                go_wp2
                go_meet
                case rel => exact ⟨_, ((t197 == (t195.size : Int))), (by first | rfl | (simp; done) | (simp [*]; done) | (simp [wrap64]; done) | (simp [isEmpty_bne]; done)), H', ⟨by have := HJ7.out; first | omega | exact Nat.le_refl _⟩, ⟨by repeat (first | (with_reducible first | exact HB.out | apply below_alloc | apply pw_below_drewN | apply below_drew1) | exact HB.out)⟩⟩
              · rw [if_neg c56] at H
                have c56b0 : decide (0 < t196) = false := decide_eq_false c56
                clear c56
                (first | rw [c56b0] | (simp only [i64_w, i32_w]; rw [c56b0]) | skip)
                have H' := Aside0.mk H
                clear H
                go_wp2
                go_meet
                case rel => exact ⟨_, (false), (by first | rfl | (simp; done) | (simp [*]; done) | (simp [wrap64]; done) | (simp [isEmpty_bne]; done)), H', ⟨by have := HJ7.out; first | omega | exact Nat.le_refl _⟩, ⟨by repeat (first | (with_reducible first | exact HB.out | apply below_alloc | apply pw_below_drewN | apply below_drew1) | exact HB.out)⟩⟩
            case rest =>
              clear HC55
              try clear c1
              try clear c2
              try clear p2
              try clear c3
              try clear c3b0
              try clear c3b1
              try clear c4
              try clear c5
              try clear p6
              try clear c8
              try clear c10
              try clear c11
              try clear c13
              try clear c13b0
              try clear c13b1
              try clear c14
              try clear c14b0
              try clear c14b1
              try clear c15
              try clear c15b0
              try clear c16
              try clear c16b0
              try clear c16b1
              try clear c18
              try clear c18b0
              try clear c18b1
              try clear c21
              try clear c23
              try clear c23b0
              try clear c23b1
              try clear c27
              try clear c27b0
              try clear c27b1
              try clear c31
              try clear c31b0
              try clear c31b1
              try clear c32
              try clear c32b0
              try clear c32b1
              try clear c33
              try clear c33b0
              try clear c34
              try clear c34b0
              try clear c34b1
              try clear c36
              try clear c36b0
              try clear c36b1
              try clear c43
              try clear c43b0
              try clear c43b1
              try clear c48
              try clear c48b0
              try clear c48b1
              try clear c54
              try clear c56
              try clear c56b0
              try clear p2
              try clear p6
              obtain ⟨kq, x63_54, rfl, HA, HJ54, HB⟩ := hcut
              cases kq with
              | zero => exact absurd HA.out (by simp [scholiastlaw02_TokenBack.j1])
              | succ kj54 =>
                have H := HA.out
                clear HA
                simp only [scholiastlaw02_TokenBack.j1] at H
                have HC57 := Aside0.mk H
                clear H
                go_upto_if 63 with (fail)
                go_cut [] (fun wc => ∃ (kq : Nat), Aside0 (scholiastlaw02_TokenBack.j2 kq a0 t195 = some r) ∧ Aside0 (kq ≤ kj54) ∧ Aside0 (Below w.heap.size w wc))
                case first =>
                  have H := HC57.out
                  clear HC57
                  by_cases c58 : x63_54 = true
                  · subst c58
                    have H1 : (if t195.size + a1.size ≤ 9223372036854775807 then ((token_Operator.f kj54 (t195 ++ a1)).bind fun bt206 => (if bt206.2 < t197 then (some false) else ((token_Name.f kj54 bt206.1).bind fun t208 => (if 0 ≤ bt206.2 then (if bt206.2 ≤ ((t195 ++ a1).size : Int) then (if t208.toList = ((t195 ++ a1).extract 0 (bt206.2 : Int).toNat).toList then (scholiastlaw02_TokenBack.j2 kj54 a0 t195) else (some false)) else (none)) else (none))))) else (none)) = some r := by rw [if_pos rfl] at H; exact H
                    clear H
                    have H := H1
                    clear H1
                    by_cases c59 : t195.size + a1.size ≤ 9223372036854775807
                    · rw [if_pos c59] at H
                      have c59b0 := eq_true c59
                      have c59b1 : decide (t195.size + a1.size ≤ 9223372036854775807) = true := decide_eq_true c59
                      try have c59b2 : (9223372036854775807 < t195.size + a1.size) = False := eq_false (Nat.not_lt.2 c59)
                      replace H := Option.bind_eq_some_iff.mp H
                      obtain ⟨⟨t206, t207⟩, A600, H⟩ := H
                      replace H : (if t207 < t197 then (some false) else ((token_Name.f kj54 t206).bind fun t208 => (if 0 ≤ t207 then (if t207 ≤ ((t195 ++ a1).size : Int) then (if t208.toList = ((t195 ++ a1).extract 0 (t207 : Int).toNat).toList then (scholiastlaw02_TokenBack.j2 kj54 a0 t195) else (some false)) else (none)) else (none)))) = some r := H
                      have A60 := Aside0.mk A600
                      clear A600
                      by_cases c61 : t207 < t197
                      · rw [if_pos c61] at H
                        have c61b0 : decide (t207 < t197) = true := decide_eq_true c61
                        clear c61
                        (first | rw [c61b0] | (simp only [i64_w, i32_w]; rw [c61b0]) | skip)
                        obtain rfl := Option.some.inj H
                        try go_wp2_with (first | ((with_reducible refine gate_callee (f := 11) rfl ?_); refine goesL_ (some 68) rfl rfl Tryd.func11 (by kernel_rfl) rfl #[.string (t195 ++ a1)] rfl (by (try simp only [List.map_toArray, List.map_cons, List.map_nil]); first | done | rfl | (simp only [List.length_drop, List.length_take]; rfl) | (rw [extract_all]; rfl)) ?_; (with_reducible refine (token_Operator.calls kj54 (t195 ++ a1) t206 t207 _ A60.out).mono ?_); rintro e w62 ⟨rfl, hb⟩; refine ⟨_, rfl, ?_⟩; have n0_ := Aside0.mk (below_step (by repeat (first | (with_reducible first | exact HB.out | apply below_alloc | apply pw_below_drewN | apply below_drew1) | exact HB.out)) hb); clear HB; have HB := n0_; clear n0_; (try clear hb); (try clear hb2); (try clear hk); (try clear hi)))
                        have n0_ := Aside0.mk (below_drew1 HB.out)
                        clear HB
                        have HB := n0_
                        clear n0_
                        refine start_ (n := 13) (S := fun w' => True) (ds := []) #[false, false, false, false, false, false, false, false, false, false, false, false, false] (by kernel_rfl) rfl rfl trivial (fun hHeld => ?_); refine with_tabW scholiastlaw02_TokenBack.tab11 scholiastlaw02_TokenBack.bits11 (fun HT_ HW_ => ?_)
                        generalize w62.drew = w63 at HB hHeld ⊢
                        refine pure_ (i := 0) (N := some 71) (v := ?_) (a' := ?_) #[true, false, false, false, false, false, false, false, false, false, false, false, false] rfl rfl (any_of HT_.out (by kernel_rfl)) (fun _ _ _ h => h) (Or.inl ⟨by rfl, ?_⟩) ?_ ?_
                        rotate_left
                        · intro w'
                          go_simp
                          with_reducible rfl
                        rotate_left
                        · simp only [Act.put, List.setIfInBounds_toArray, List.set_cons_zero, List.set_cons_succ, i64_w, i32_w]
                          rfl
                        refine pure_ (i := 1) (N := some 72) (v := ?_) (a' := ?_) #[true, true, false, false, false, false, false, false, false, false, false, false, false] rfl rfl (any_of HT_.out (by kernel_rfl)) (fun _ _ _ h => h) (Or.inl ⟨by rfl, ?_⟩) ?_ ?_
                        rotate_left
                        · intro w'
                          go_simp
                          with_reducible rfl
                        rotate_left
                        · simp only [Act.put, List.setIfInBounds_toArray, List.set_cons_zero, List.set_cons_succ, i64_w, i32_w]
                          rfl
                        refine pure_ (i := 2) (N := some 73) (v := ?_) (a' := ?_) #[true, true, true, false, false, false, false, false, false, false, false, false, false] rfl rfl (any_of HT_.out (by kernel_rfl)) (fun _ _ _ h => h) (Or.inl ⟨by rfl, ?_⟩) ?_ ?_
                        rotate_left
                        · intro w'
                          go_simp
                          with_reducible rfl
                        rotate_left
                        · simp only [Act.put, List.setIfInBounds_toArray, List.set_cons_zero, List.set_cons_succ, i64_w, i32_w]
                          rfl
                        refine pure_ (i := 3) (N := some 74) (v := ?_) (a' := ?_) #[true, true, true, true, false, false, false, false, false, false, false, false, false] rfl rfl (any_of HT_.out (by kernel_rfl)) (fun _ _ _ h => h) (Or.inl ⟨by rfl, ?_⟩) ?_ ?_
                        rotate_left
                        · intro w'
                          go_simp
                          with_reducible rfl
                        rotate_left
                        · simp only [Act.put, List.setIfInBounds_toArray, List.set_cons_zero, List.set_cons_succ, i64_w, i32_w]
                          rfl
                        refine pure_ (i := 4) (N := some 75) (v := undef) (a' := ?_) #[true, true, true, true, true, false, false, false, false, false, false, false, false] rfl rfl (any_of HT_.out (by kernel_rfl)) (fun _ _ _ h => h) (Or.inr ⟨by rfl, rfl⟩) ?_ ?_
                        rotate_left
                        · simp only [Act.put, List.setIfInBounds_toArray, List.set_cons_zero, List.set_cons_succ, i64_w, i32_w]
                          rfl
                        refine pure_ (i := 5) (N := some 76) (v := undef) (a' := ?_) #[true, true, true, true, true, true, false, false, false, false, false, false, false] rfl rfl (any_of HT_.out (by kernel_rfl)) (fun _ _ _ h => h) (Or.inr ⟨by rfl, rfl⟩) ?_ ?_
                        rotate_left
                        · simp only [Act.put, List.setIfInBounds_toArray, List.set_cons_zero, List.set_cons_succ, i64_w, i32_w]
                          rfl
                        refine pure_ (i := 6) (N := some 77) (v := undef) (a' := ?_) #[true, true, true, true, true, true, true, false, false, false, false, false, false] rfl rfl (any_of HT_.out (by kernel_rfl)) (fun _ _ _ h => h) (Or.inr ⟨by rfl, rfl⟩) ?_ ?_
                        rotate_left
                        · simp only [Act.put, List.setIfInBounds_toArray, List.set_cons_zero, List.set_cons_succ, i64_w, i32_w]
                          rfl
                        refine pure_ (i := 7) (N := some 78) (v := undef) (a' := ?_) #[true, true, true, true, true, true, true, true, false, false, false, false, false] rfl rfl (any_of HT_.out (by kernel_rfl)) (fun _ _ _ h => h) (Or.inr ⟨by rfl, rfl⟩) ?_ ?_
                        rotate_left
                        · simp only [Act.put, List.setIfInBounds_toArray, List.set_cons_zero, List.set_cons_succ, i64_w, i32_w]
                          rfl
                        refine pure_ (i := 8) (N := some 79) (v := undef) (a' := ?_) #[true, true, true, true, true, true, true, true, true, false, false, false, false] rfl rfl (any_of HT_.out (by kernel_rfl)) (fun _ _ _ h => h) (Or.inr ⟨by rfl, rfl⟩) ?_ ?_
                        rotate_left
                        · simp only [Act.put, List.setIfInBounds_toArray, List.set_cons_zero, List.set_cons_succ, i64_w, i32_w]
                          rfl
                        refine pure_ (i := 9) (N := some 80) (v := undef) (a' := ?_) #[true, true, true, true, true, true, true, true, true, true, false, false, false] rfl rfl (any_of HT_.out (by kernel_rfl)) (fun _ _ _ h => h) (Or.inr ⟨by rfl, rfl⟩) ?_ ?_
                        rotate_left
                        · simp only [Act.put, List.setIfInBounds_toArray, List.set_cons_zero, List.set_cons_succ, i64_w, i32_w]
                          rfl
                        refine pure_ (i := 10) (N := some 81) (v := undef) (a' := ?_) #[true, true, true, true, true, true, true, true, true, true, true, false, false] rfl rfl (any_of HT_.out (by kernel_rfl)) (fun _ _ _ h => h) (Or.inr ⟨by rfl, rfl⟩) ?_ ?_
                        rotate_left
                        · simp only [Act.put, List.setIfInBounds_toArray, List.set_cons_zero, List.set_cons_succ, i64_w, i32_w]
                          rfl
                        refine pure_ (i := 11) (N := some 82) (v := undef) (a' := ?_) #[true, true, true, true, true, true, true, true, true, true, true, true, false] rfl rfl (any_of HT_.out (by kernel_rfl)) (fun _ _ _ h => h) (Or.inr ⟨by rfl, rfl⟩) ?_ ?_
                        rotate_left
                        · simp only [Act.put, List.setIfInBounds_toArray, List.set_cons_zero, List.set_cons_succ, i64_w, i32_w]
                          rfl
                        refine pure_ (i := 12) (N := some 83) (v := ?_) (a' := ?_) #[true, true, true, true, true, true, true, true, true, true, true, true, true] rfl rfl (any_of HT_.out (by kernel_rfl)) (fun _ _ _ h => h) (Or.inl ⟨by rfl, ?_⟩) ?_ ?_
                        rotate_left
                        · intro w'
                          go_simp
                          with_reducible rfl
                        rotate_left
                        · simp only [Act.put, List.setIfInBounds_toArray, List.set_cons_zero, List.set_cons_succ, i64_w, i32_w]
                          rfl
                        refine done_ (done_of HT_.out (by kernel_rfl)) ?_
                        try go_wp2
                        go_ret
                        exact ⟨by first | rfl | (simp [errW_none, errW_some] <;> rfl) | (simp [*, errW_none, errW_some] <;> rfl), by repeat (first | (with_reducible first | exact HB.out | apply below_alloc | apply pw_below_drewN | apply below_drew1) | exact HB.out)⟩
                      · rw [if_neg c61] at H
                        have c61b0 : decide (t207 < t197) = false := decide_eq_false c61
                        clear c61
                        (first | rw [c61b0] | (simp only [i64_w, i32_w]; rw [c61b0]) | skip)
                        replace H := Option.bind_eq_some_iff.mp H
                        obtain ⟨t208, A640, H⟩ := H
                        replace H : (if 0 ≤ t207 then (if t207 ≤ ((t195 ++ a1).size : Int) then (if t208.toList = ((t195 ++ a1).extract 0 (t207 : Int).toNat).toList then (scholiastlaw02_TokenBack.j2 kj54 a0 t195) else (some false)) else (none)) else (none)) = some r := H
                        have A64 := Aside0.mk A640
                        clear A640
                        by_cases c65 : 0 ≤ t207
                        · rw [if_pos c65] at H
                          have c65b0 := eq_true c65
                          have c65b1 : decide (0 ≤ t207) = true := decide_eq_true c65
                          clear c65
                          by_cases c66 : t207 ≤ ((t195 ++ a1).size : Int)
                          · rw [if_pos c66] at H
                            have c66b0 := eq_true c66
                            have c66b1 : decide (t207 ≤ ((t195 ++ a1).size : Int)) = true := decide_eq_true c66
                            (try (have c66b5 : t207 ≤ ((t195.size + a1.size) : Int) := by have h_ := c66; simp only [ByteArray.size_append] at h_; exact h_))
                            (try (have c66b4 := c66; simp only [ByteArray.size_append, Int.natCast_add] at c66b4; replace c66b4 := eq_true c66b4))
                            by_cases c67 : t208.toList = ((t195 ++ a1).extract 0 (t207 : Int).toNat).toList
                            · rw [if_pos c67] at H
                              have c67b0 : (t208.toList == ((t195 ++ a1).extract 0 (t207 : Int).toNat).toList) = true := beq_iff_eq.mpr c67
                              have c67b1 : (t208.toList != ((t195 ++ a1).extract 0 (t207 : Int).toNat).toList) = false := bne_eq_false_iff_eq.mpr c67
                              clear c67
                              have H' := Aside0.mk H
                              clear H
                              try go_wp2_with (first | ((with_reducible refine gate_callee (f := 11) rfl ?_); refine goesL_ (some 68) rfl rfl Tryd.func11 (by kernel_rfl) rfl #[.string (t195 ++ a1)] rfl (by (try simp only [List.map_toArray, List.map_cons, List.map_nil]); first | done | rfl | (simp only [List.length_drop, List.length_take]; rfl) | (rw [extract_all]; rfl)) ?_; (with_reducible refine (token_Operator.calls kj54 (t195 ++ a1) t206 t207 _ A60.out).mono ?_); rintro e w68 ⟨rfl, hb⟩; refine ⟨_, rfl, ?_⟩; have n0_ := Aside0.mk (below_step (by repeat (first | (with_reducible first | exact HB.out | apply below_alloc | apply pw_below_drewN | apply below_drew1) | exact HB.out)) hb); clear HB; have HB := n0_; clear n0_; (try clear hb); (try clear hb2); (try clear hk); (try clear hi)))
                              have n0_ := Aside0.mk (below_drew1 HB.out)
                              clear HB
                              have HB := n0_
                              clear n0_
                              refine start_ (n := 13) (S := fun w' => True) (ds := []) #[false, false, false, false, false, false, false, false, false, false, false, false, false] (by kernel_rfl) rfl rfl trivial (fun hHeld => ?_); refine with_tabW scholiastlaw02_TokenBack.tab11 scholiastlaw02_TokenBack.bits11 (fun HT_ HW_ => ?_)
                              generalize w68.drew = w69 at HB hHeld ⊢
                              refine pure_ (i := 0) (N := some 71) (v := ?_) (a' := ?_) #[true, false, false, false, false, false, false, false, false, false, false, false, false] rfl rfl (any_of HT_.out (by kernel_rfl)) (fun _ _ _ h => h) (Or.inl ⟨by rfl, ?_⟩) ?_ ?_
                              rotate_left
                              · intro w'
                                go_simp
                                with_reducible rfl
                              rotate_left
                              · simp only [Act.put, List.setIfInBounds_toArray, List.set_cons_zero, List.set_cons_succ, i64_w, i32_w]
                                rfl
                              refine pure_ (i := 1) (N := some 72) (v := ?_) (a' := ?_) #[true, true, false, false, false, false, false, false, false, false, false, false, false] rfl rfl (any_of HT_.out (by kernel_rfl)) (fun _ _ _ h => h) (Or.inl ⟨by rfl, ?_⟩) ?_ ?_
                              rotate_left
                              · intro w'
                                go_simp
                                with_reducible rfl
                              rotate_left
                              · simp only [Act.put, List.setIfInBounds_toArray, List.set_cons_zero, List.set_cons_succ, i64_w, i32_w]
                                rfl
                              refine pure_ (i := 2) (N := some 73) (v := ?_) (a' := ?_) #[true, true, true, false, false, false, false, false, false, false, false, false, false] rfl rfl (any_of HT_.out (by kernel_rfl)) (fun _ _ _ h => h) (Or.inl ⟨by rfl, ?_⟩) ?_ ?_
                              rotate_left
                              · intro w'
                                go_simp
                                with_reducible rfl
                              rotate_left
                              · simp only [Act.put, List.setIfInBounds_toArray, List.set_cons_zero, List.set_cons_succ, i64_w, i32_w]
                                rfl
                              refine pure_ (i := 3) (N := some 74) (v := ?_) (a' := ?_) #[true, true, true, true, false, false, false, false, false, false, false, false, false] rfl rfl (any_of HT_.out (by kernel_rfl)) (fun _ _ _ h => h) (Or.inl ⟨by rfl, ?_⟩) ?_ ?_
                              rotate_left
                              · intro w'
                                go_simp
                                with_reducible rfl
                              rotate_left
                              · simp only [Act.put, List.setIfInBounds_toArray, List.set_cons_zero, List.set_cons_succ, i64_w, i32_w]
                                rfl
                              refine pure_ (i := 4) (N := some 75) (v := ?_) (a' := ?_) #[true, true, true, true, true, false, false, false, false, false, false, false, false] rfl rfl (any_of HT_.out (by kernel_rfl)) (fun _ _ _ h => h) (Or.inl ⟨by rfl, ?_⟩) ?_ ?_
                              rotate_left
                              · intro w'
                                go_simp
                                with_reducible rfl
                              rotate_left
                              · simp only [Act.put, List.setIfInBounds_toArray, List.set_cons_zero, List.set_cons_succ, i64_w, i32_w]
                                rfl
                              refine pure_ (i := 6) (N := some 77) (v := ?_) (a' := ?_) #[true, true, true, true, true, false, true, false, false, false, false, false, false] rfl rfl (any_of HT_.out (by kernel_rfl)) (fun _ _ _ h => h) (Or.inl ⟨by rfl, ?_⟩) ?_ ?_
                              rotate_left
                              · intro w'
                                go_simp
                                with_reducible rfl
                              rotate_left
                              · simp only [Act.put, List.setIfInBounds_toArray, List.set_cons_zero, List.set_cons_succ, i64_w, i32_w]
                                rfl
                              refine pure_ (i := 7) (N := some 78) (v := ?_) (a' := ?_) #[true, true, true, true, true, false, true, true, false, false, false, false, false] rfl rfl (any_of HT_.out (by kernel_rfl)) (fun _ _ _ h => h) (Or.inl ⟨by rfl, ?_⟩) ?_ ?_
                              rotate_left
                              · intro w'
                                go_simp
                                with_reducible rfl
                              rotate_left
                              · simp only [Act.put, List.setIfInBounds_toArray, List.set_cons_zero, List.set_cons_succ, i64_w, i32_w]
                                rfl
                              refine pure_ (i := 8) (N := some 79) (v := ?_) (a' := ?_) #[true, true, true, true, true, false, true, true, true, false, false, false, false] rfl rfl (any_of HT_.out (by kernel_rfl)) (fun _ _ _ h => h) (Or.inl ⟨by rfl, ?_⟩) ?_ ?_
                              rotate_left
                              · intro w'
                                go_simp
                                with_reducible rfl
                              rotate_left
                              · simp only [Act.put, List.setIfInBounds_toArray, List.set_cons_zero, List.set_cons_succ, i64_w, i32_w]
                                rfl
                              refine pure_ (i := 9) (N := some 80) (v := ?_) (a' := ?_) #[true, true, true, true, true, false, true, true, true, true, false, false, false] rfl rfl (any_of HT_.out (by kernel_rfl)) (fun _ _ _ h => h) (Or.inl ⟨by rfl, ?_⟩) ?_ ?_
                              rotate_left
                              · intro w'
                                go_simp
                                with_reducible rfl
                              rotate_left
                              · simp only [Act.put, List.setIfInBounds_toArray, List.set_cons_zero, List.set_cons_succ, i64_w, i32_w]
                                rfl
                              refine pure_ (i := 10) (N := some 81) (v := ?_) (a' := ?_) #[true, true, true, true, true, false, true, true, true, true, true, false, false] rfl rfl (any_of HT_.out (by kernel_rfl)) (fun _ _ _ h => h) (Or.inl ⟨by rfl, ?_⟩) ?_ ?_
                              rotate_left
                              · intro w'
                                go_simp
                                with_reducible rfl
                              rotate_left
                              · simp only [Act.put, List.setIfInBounds_toArray, List.set_cons_zero, List.set_cons_succ, i64_w, i32_w]
                                rfl
                              refine one_ (i := 5) (N := some 76) #[true, true, true, true, true, true, true, true, true, true, true, false, false] rfl rfl (one_of HT_.out (by kernel_rfl)) (by decide) (fun K hK => ?_)
                              refine goes_ Tryd.func21 (by kernel_rfl) rfl #[.int .i64 t206] (by rfl) rfl rfl (by (try simp only [List.map_toArray, List.map_cons, List.map_nil]); first | done | rfl | (simp only [List.length_drop, List.length_take]; rfl) | (rw [extract_all]; rfl)) ?_
                              with_reducible refine (token_Name.calls kj54 t206 t208 _ A64.out).mono ?_
                              rintro e w70 ⟨rfl, hb⟩
                              refine ⟨_, rfl, ?_⟩
                              have n0_ := Aside0.mk (below_step (by repeat (first | (with_reducible first | exact HB.out | apply below_alloc | apply pw_below_drewN | apply below_drew1) | exact HB.out)) hb)
                              clear HB
                              have HB := n0_
                              clear n0_
                              (try clear hb)
                              (try clear hb2)
                              (try clear hk)
                              (try clear hi)
                              refine hK.out _ _ trivial (fun hHeld => ?_)
                              clear hK K
                              refine norm_ (a' := ?_) ?_ ?_
                              rotate_left
                              · show Act.put _ (some 76) _ = _
                                simp only [Act.put, List.setIfInBounds_toArray, List.set_cons_zero, List.set_cons_succ, i64_w, i32_w]
                                rfl
                              refine pure_ (i := 11) (N := some 82) (v := ?_) (a' := ?_) #[true, true, true, true, true, true, true, true, true, true, true, true, false] rfl rfl (any_of HT_.out (by kernel_rfl)) (fun _ _ _ h => h) (Or.inl ⟨by rfl, ?_⟩) ?_ ?_
                              rotate_left
                              · intro w'
                                go_simp
                                with_reducible rfl
                              rotate_left
                              · simp only [Act.put, List.setIfInBounds_toArray, List.set_cons_zero, List.set_cons_succ, i64_w, i32_w]
                                rfl
                              refine pure_ (i := 12) (N := some 83) (v := ?_) (a' := ?_) #[true, true, true, true, true, true, true, true, true, true, true, true, true] rfl rfl (any_of HT_.out (by kernel_rfl)) (fun _ _ _ h => h) (Or.inl ⟨by rfl, ?_⟩) ?_ ?_
                              rotate_left
                              · intro w'
                                go_simp
                                with_reducible rfl
                              rotate_left
                              · simp only [Act.put, List.setIfInBounds_toArray, List.set_cons_zero, List.set_cons_succ, i64_w, i32_w]
                                rfl
                              refine done_ (done_of HT_.out (by kernel_rfl)) ?_
                              try go_wp2
                              go_meet
                              case rel => exact ⟨_, H', ⟨by have := HJ7.out; have := HJ54.out; first | omega | exact Nat.le_refl _⟩, ⟨by repeat (first | (with_reducible first | exact HB.out | apply below_alloc | apply pw_below_drewN | apply below_drew1) | exact HB.out)⟩⟩
                            · rw [if_neg c67] at H
                              have c67b0 : (t208.toList == ((t195 ++ a1).extract 0 (t207 : Int).toNat).toList) = false := beq_eq_false_iff_ne.mpr c67
                              have c67b1 : (t208.toList != ((t195 ++ a1).extract 0 (t207 : Int).toNat).toList) = true := bne_iff_ne.mpr c67
                              obtain rfl := Option.some.inj H
                              try go_wp2_with (first | ((with_reducible refine gate_callee (f := 11) rfl ?_); refine goesL_ (some 68) rfl rfl Tryd.func11 (by kernel_rfl) rfl #[.string (t195 ++ a1)] rfl (by (try simp only [List.map_toArray, List.map_cons, List.map_nil]); first | done | rfl | (simp only [List.length_drop, List.length_take]; rfl) | (rw [extract_all]; rfl)) ?_; (with_reducible refine (token_Operator.calls kj54 (t195 ++ a1) t206 t207 _ A60.out).mono ?_); rintro e w71 ⟨rfl, hb⟩; refine ⟨_, rfl, ?_⟩; have n0_ := Aside0.mk (below_step (by repeat (first | (with_reducible first | exact HB.out | apply below_alloc | apply pw_below_drewN | apply below_drew1) | exact HB.out)) hb); clear HB; have HB := n0_; clear n0_; (try clear hb); (try clear hb2); (try clear hk); (try clear hi)))
                              have n0_ := Aside0.mk (below_drew1 HB.out)
                              clear HB
                              have HB := n0_
                              clear n0_
                              refine start_ (n := 13) (S := fun w' => True) (ds := []) #[false, false, false, false, false, false, false, false, false, false, false, false, false] (by kernel_rfl) rfl rfl trivial (fun hHeld => ?_); refine with_tabW scholiastlaw02_TokenBack.tab11 scholiastlaw02_TokenBack.bits11 (fun HT_ HW_ => ?_)
                              generalize w71.drew = w72 at HB hHeld ⊢
                              refine pure_ (i := 0) (N := some 71) (v := ?_) (a' := ?_) #[true, false, false, false, false, false, false, false, false, false, false, false, false] rfl rfl (any_of HT_.out (by kernel_rfl)) (fun _ _ _ h => h) (Or.inl ⟨by rfl, ?_⟩) ?_ ?_
                              rotate_left
                              · intro w'
                                go_simp
                                with_reducible rfl
                              rotate_left
                              · simp only [Act.put, List.setIfInBounds_toArray, List.set_cons_zero, List.set_cons_succ, i64_w, i32_w]
                                rfl
                              refine pure_ (i := 1) (N := some 72) (v := ?_) (a' := ?_) #[true, true, false, false, false, false, false, false, false, false, false, false, false] rfl rfl (any_of HT_.out (by kernel_rfl)) (fun _ _ _ h => h) (Or.inl ⟨by rfl, ?_⟩) ?_ ?_
                              rotate_left
                              · intro w'
                                go_simp
                                with_reducible rfl
                              rotate_left
                              · simp only [Act.put, List.setIfInBounds_toArray, List.set_cons_zero, List.set_cons_succ, i64_w, i32_w]
                                rfl
                              refine pure_ (i := 2) (N := some 73) (v := ?_) (a' := ?_) #[true, true, true, false, false, false, false, false, false, false, false, false, false] rfl rfl (any_of HT_.out (by kernel_rfl)) (fun _ _ _ h => h) (Or.inl ⟨by rfl, ?_⟩) ?_ ?_
                              rotate_left
                              · intro w'
                                go_simp
                                with_reducible rfl
                              rotate_left
                              · simp only [Act.put, List.setIfInBounds_toArray, List.set_cons_zero, List.set_cons_succ, i64_w, i32_w]
                                rfl
                              refine pure_ (i := 3) (N := some 74) (v := ?_) (a' := ?_) #[true, true, true, true, false, false, false, false, false, false, false, false, false] rfl rfl (any_of HT_.out (by kernel_rfl)) (fun _ _ _ h => h) (Or.inl ⟨by rfl, ?_⟩) ?_ ?_
                              rotate_left
                              · intro w'
                                go_simp
                                with_reducible rfl
                              rotate_left
                              · simp only [Act.put, List.setIfInBounds_toArray, List.set_cons_zero, List.set_cons_succ, i64_w, i32_w]
                                rfl
                              refine pure_ (i := 4) (N := some 75) (v := ?_) (a' := ?_) #[true, true, true, true, true, false, false, false, false, false, false, false, false] rfl rfl (any_of HT_.out (by kernel_rfl)) (fun _ _ _ h => h) (Or.inl ⟨by rfl, ?_⟩) ?_ ?_
                              rotate_left
                              · intro w'
                                go_simp
                                with_reducible rfl
                              rotate_left
                              · simp only [Act.put, List.setIfInBounds_toArray, List.set_cons_zero, List.set_cons_succ, i64_w, i32_w]
                                rfl
                              refine pure_ (i := 6) (N := some 77) (v := ?_) (a' := ?_) #[true, true, true, true, true, false, true, false, false, false, false, false, false] rfl rfl (any_of HT_.out (by kernel_rfl)) (fun _ _ _ h => h) (Or.inl ⟨by rfl, ?_⟩) ?_ ?_
                              rotate_left
                              · intro w'
                                go_simp
                                with_reducible rfl
                              rotate_left
                              · simp only [Act.put, List.setIfInBounds_toArray, List.set_cons_zero, List.set_cons_succ, i64_w, i32_w]
                                rfl
                              refine pure_ (i := 7) (N := some 78) (v := ?_) (a' := ?_) #[true, true, true, true, true, false, true, true, false, false, false, false, false] rfl rfl (any_of HT_.out (by kernel_rfl)) (fun _ _ _ h => h) (Or.inl ⟨by rfl, ?_⟩) ?_ ?_
                              rotate_left
                              · intro w'
                                go_simp
                                with_reducible rfl
                              rotate_left
                              · simp only [Act.put, List.setIfInBounds_toArray, List.set_cons_zero, List.set_cons_succ, i64_w, i32_w]
                                rfl
                              refine pure_ (i := 8) (N := some 79) (v := ?_) (a' := ?_) #[true, true, true, true, true, false, true, true, true, false, false, false, false] rfl rfl (any_of HT_.out (by kernel_rfl)) (fun _ _ _ h => h) (Or.inl ⟨by rfl, ?_⟩) ?_ ?_
                              rotate_left
                              · intro w'
                                go_simp
                                with_reducible rfl
                              rotate_left
                              · simp only [Act.put, List.setIfInBounds_toArray, List.set_cons_zero, List.set_cons_succ, i64_w, i32_w]
                                rfl
                              refine pure_ (i := 9) (N := some 80) (v := ?_) (a' := ?_) #[true, true, true, true, true, false, true, true, true, true, false, false, false] rfl rfl (any_of HT_.out (by kernel_rfl)) (fun _ _ _ h => h) (Or.inl ⟨by rfl, ?_⟩) ?_ ?_
                              rotate_left
                              · intro w'
                                go_simp
                                with_reducible rfl
                              rotate_left
                              · simp only [Act.put, List.setIfInBounds_toArray, List.set_cons_zero, List.set_cons_succ, i64_w, i32_w]
                                rfl
                              refine pure_ (i := 10) (N := some 81) (v := ?_) (a' := ?_) #[true, true, true, true, true, false, true, true, true, true, true, false, false] rfl rfl (any_of HT_.out (by kernel_rfl)) (fun _ _ _ h => h) (Or.inl ⟨by rfl, ?_⟩) ?_ ?_
                              rotate_left
                              · intro w'
                                go_simp
                                with_reducible rfl
                              rotate_left
                              · simp only [Act.put, List.setIfInBounds_toArray, List.set_cons_zero, List.set_cons_succ, i64_w, i32_w]
                                rfl
                              refine one_ (i := 5) (N := some 76) #[true, true, true, true, true, true, true, true, true, true, true, false, false] rfl rfl (one_of HT_.out (by kernel_rfl)) (by decide) (fun K hK => ?_)
                              refine goes_ Tryd.func21 (by kernel_rfl) rfl #[.int .i64 t206] (by rfl) rfl rfl (by (try simp only [List.map_toArray, List.map_cons, List.map_nil]); first | done | rfl | (simp only [List.length_drop, List.length_take]; rfl) | (rw [extract_all]; rfl)) ?_
                              with_reducible refine (token_Name.calls kj54 t206 t208 _ A64.out).mono ?_
                              rintro e w73 ⟨rfl, hb⟩
                              refine ⟨_, rfl, ?_⟩
                              have n0_ := Aside0.mk (below_step (by repeat (first | (with_reducible first | exact HB.out | apply below_alloc | apply pw_below_drewN | apply below_drew1) | exact HB.out)) hb)
                              clear HB
                              have HB := n0_
                              clear n0_
                              (try clear hb)
                              (try clear hb2)
                              (try clear hk)
                              (try clear hi)
                              refine hK.out _ _ trivial (fun hHeld => ?_)
                              clear hK K
                              refine norm_ (a' := ?_) ?_ ?_
                              rotate_left
                              · show Act.put _ (some 76) _ = _
                                simp only [Act.put, List.setIfInBounds_toArray, List.set_cons_zero, List.set_cons_succ, i64_w, i32_w]
                                rfl
                              refine pure_ (i := 11) (N := some 82) (v := ?_) (a' := ?_) #[true, true, true, true, true, true, true, true, true, true, true, true, false] rfl rfl (any_of HT_.out (by kernel_rfl)) (fun _ _ _ h => h) (Or.inl ⟨by rfl, ?_⟩) ?_ ?_
                              rotate_left
                              · intro w'
                                go_simp
                                with_reducible rfl
                              rotate_left
                              · simp only [Act.put, List.setIfInBounds_toArray, List.set_cons_zero, List.set_cons_succ, i64_w, i32_w]
                                rfl
                              refine pure_ (i := 12) (N := some 83) (v := ?_) (a' := ?_) #[true, true, true, true, true, true, true, true, true, true, true, true, true] rfl rfl (any_of HT_.out (by kernel_rfl)) (fun _ _ _ h => h) (Or.inl ⟨by rfl, ?_⟩) ?_ ?_
                              rotate_left
                              · intro w'
                                go_simp
                                with_reducible rfl
                              rotate_left
                              · simp only [Act.put, List.setIfInBounds_toArray, List.set_cons_zero, List.set_cons_succ, i64_w, i32_w]
                                rfl
                              refine done_ (done_of HT_.out (by kernel_rfl)) ?_
                              try go_wp2
                              go_ret
                              exact ⟨by first | rfl | (simp [errW_none, errW_some] <;> rfl) | (simp [*, errW_none, errW_some] <;> rfl), by repeat (first | (with_reducible first | exact HB.out | apply below_alloc | apply pw_below_drewN | apply below_drew1) | exact HB.out)⟩
                          · rw [if_neg c66] at H
                            exact absurd H (by simp)
                        · rw [if_neg c65] at H
                          exact absurd H (by simp)
                    · rw [if_neg c59] at H
                      exact absurd H (by simp)
                  · replace c58 := Bool.eq_false_iff.mpr c58
                    subst c58
                    have H1 : (scholiastlaw02_TokenBack.j2 kj54 a0 t195) = some r := by rw [if_neg (show ¬ (false = true) by decide)] at H; exact H
                    clear H
                    have H := H1
                    clear H1
                    have H' := Aside0.mk H
                    clear H
                    go_wp2
                    go_meet
                    case rel => exact ⟨_, H', ⟨by have := HJ7.out; have := HJ54.out; first | omega | exact Nat.le_refl _⟩, ⟨by repeat (first | (with_reducible first | exact HB.out | apply below_alloc | apply pw_below_drewN | apply below_drew1) | exact HB.out)⟩⟩
                case rest =>
                  clear HC57
                  try clear c1
                  try clear c2
                  try clear p2
                  try clear c3
                  try clear c3b0
                  try clear c3b1
                  try clear c4
                  try clear c5
                  try clear c6
                  try clear p6
                  try clear c8
                  try clear c10
                  try clear c11
                  try clear c13
                  try clear c13b0
                  try clear c13b1
                  try clear c14
                  try clear c14b0
                  try clear c14b1
                  try clear c15
                  try clear c15b0
                  try clear c16
                  try clear c16b0
                  try clear c16b1
                  try clear c18
                  try clear c18b0
                  try clear c18b1
                  try clear c21
                  try clear c23
                  try clear c23b0
                  try clear c23b1
                  try clear c27
                  try clear c27b0
                  try clear c27b1
                  try clear c31
                  try clear c31b0
                  try clear c31b1
                  try clear c32
                  try clear c32b0
                  try clear c32b1
                  try clear c33
                  try clear c33b0
                  try clear c34
                  try clear c34b0
                  try clear c34b1
                  try clear c36
                  try clear c36b0
                  try clear c36b1
                  try clear c43
                  try clear c43b0
                  try clear c43b1
                  try clear c48
                  try clear c48b0
                  try clear c48b1
                  try clear c54
                  try clear c56
                  try clear c56b0
                  try clear c58
                  try clear c59
                  try clear c59b0
                  try clear c59b1
                  try clear c59b2
                  try clear c61
                  try clear c61b0
                  try clear p64
                  try clear c65
                  try clear c65b0
                  try clear c65b1
                  try clear c66
                  try clear c66b0
                  try clear c66b1
                  try clear c67
                  try clear c67b0
                  try clear c67b1
                  try clear p2
                  try clear p6
                  obtain ⟨kq, HA, HJ56, HB⟩ := hcut
                  cases kq with
                  | zero => exact absurd HA.out (by simp [scholiastlaw02_TokenBack.j2])
                  | succ kj56 =>
                    have H := HA.out
                    clear HA
                    simp only [scholiastlaw02_TokenBack.j2] at H
                    replace H := Option.bind_eq_some_iff.mp H
                    obtain ⟨t209, A740, H⟩ := H
                    replace H : (if t209 = 0 then (some true) else ((token_Name.f kj56 t209).bind fun t210 => (if t210.size + 1 ≤ 9223372036854775807 then (if (t210 ++ (⟨#[61]⟩ : ByteArray)).toList = t195.toList then ((token_Precedence.f kj56 t209).bind fun t211 => (if t211 > 3 then ((token_Precedence.f kj56 a0).bind fun t212 => (some (t212 == 0))) else (some false))) else (some false)) else (none)))) = some r := H
                    have A74 := Aside0.mk A740
                    clear A740
                    by_cases c75 : t209 = 0
                    · rw [if_pos c75] at H
                      have c75b0 : (t209 == 0) = true := beq_iff_eq.mpr c75
                      have c75b1 : (t209 != 0) = false := bne_eq_false_iff_eq.mpr c75
                      clear c75
                      obtain rfl := Option.some.inj H
                      go_wp2_with (first | ((with_reducible refine gate_callee (f := 22) rfl ?_); refine goesL_ (some 85) rfl rfl Tryd.func22 (by kernel_rfl) rfl #[.int .i64 a0] rfl (by (try simp only [List.map_toArray, List.map_cons, List.map_nil]); first | done | rfl | (simp only [List.length_drop, List.length_take]; rfl) | (rw [extract_all]; rfl)) ?_; (with_reducible refine (token_Plain.calls a0 t209 _ A74.out).mono ?_); rintro e w' ⟨rfl, ⟨nd, rfl⟩⟩; refine ⟨_, rfl, ?_⟩))
                      go_ret
                      exact ⟨by first | rfl | (simp [errW_none, errW_some] <;> rfl) | (simp [*, errW_none, errW_some] <;> rfl), by repeat (first | (with_reducible first | exact HB.out | apply below_alloc | apply pw_below_drewN | apply below_drew1) | exact HB.out)⟩
                    · rw [if_neg c75] at H
                      have c75b0 : (t209 == 0) = false := beq_eq_false_iff_ne.mpr c75
                      have c75b1 : (t209 != 0) = true := bne_iff_ne.mpr c75
                      replace H := Option.bind_eq_some_iff.mp H
                      obtain ⟨t210, A760, H⟩ := H
                      replace H : (if t210.size + 1 ≤ 9223372036854775807 then (if (t210 ++ (⟨#[61]⟩ : ByteArray)).toList = t195.toList then ((token_Precedence.f kj56 t209).bind fun t211 => (if t211 > 3 then ((token_Precedence.f kj56 a0).bind fun t212 => (some (t212 == 0))) else (some false))) else (some false)) else (none)) = some r := H
                      have A76 := Aside0.mk A760
                      clear A760
                      by_cases c77 : t210.size + 1 ≤ 9223372036854775807
                      · rw [if_pos c77] at H
                        have c77b0 := eq_true c77
                        have c77b1 : decide (t210.size + 1 ≤ 9223372036854775807) = true := decide_eq_true c77
                        try have c77b2 : (9223372036854775807 < t210.size + 1) = False := eq_false (Nat.not_lt.2 c77)
                        by_cases c78 : (t210 ++ (⟨#[61]⟩ : ByteArray)).toList = t195.toList
                        · rw [if_pos c78] at H
                          have c78b0 : ((t210 ++ (⟨#[61]⟩ : ByteArray)).toList == t195.toList) = true := beq_iff_eq.mpr c78
                          have c78b1 : ((t210 ++ (⟨#[61]⟩ : ByteArray)).toList != t195.toList) = false := bne_eq_false_iff_eq.mpr c78
                          clear c78
                          replace H := Option.bind_eq_some_iff.mp H
                          obtain ⟨t211, A790, H⟩ := H
                          replace H : (if t211 > 3 then ((token_Precedence.f kj56 a0).bind fun t212 => (some (t212 == 0))) else (some false)) = some r := H
                          have A79 := Aside0.mk A790
                          clear A790
                          by_cases c80 : t211 > 3
                          · rw [if_pos c80] at H
                            have c80b0 : decide (3 < t211) = true := decide_eq_true c80
                            clear c80
                            replace H := Option.bind_eq_some_iff.mp H
                            obtain ⟨t212, A810, H⟩ := H
                            replace H : (some (t212 == 0)) = some r := H
                            have A81 := Aside0.mk A810
                            clear A810
                            obtain rfl := Option.some.inj H
                            go_wp2_with (first | ((with_reducible refine gate_callee (f := 22) rfl ?_); refine goesL_ (some 85) rfl rfl Tryd.func22 (by kernel_rfl) rfl #[.int .i64 a0] rfl (by (try simp only [List.map_toArray, List.map_cons, List.map_nil]); first | done | rfl | (simp only [List.length_drop, List.length_take]; rfl) | (rw [extract_all]; rfl)) ?_; (with_reducible refine (token_Plain.calls a0 t209 _ A74.out).mono ?_); rintro e w' ⟨rfl, ⟨nd, rfl⟩⟩; refine ⟨_, rfl, ?_⟩) | (go_at_call 21; (with_reducible refine (token_Name.calls kj56 t209 t210 _ A76.out).mono ?_); rintro e w82 ⟨rfl, hb⟩; have n0_ := Aside0.mk (below_step (by repeat (first | (with_reducible first | exact HB.out | apply below_alloc | apply pw_below_drewN | apply below_drew1) | exact HB.out)) hb); clear HB; have HB := n0_; clear n0_; (try clear hb); (try clear hb2); (try clear hk); (try clear hi)) | (go_at_call 23; (with_reducible refine (token_Precedence.calls kj56 t209 t211 _ A79.out).mono ?_); rintro e w' ⟨rfl, ⟨nd, rfl⟩⟩) | (go_at_call 23; (with_reducible refine (token_Precedence.calls kj56 a0 t212 _ A81.out).mono ?_); rintro e w' ⟨rfl, ⟨nd, rfl⟩⟩))
                            go_ret
                            exact ⟨by first | rfl | (simp [errW_none, errW_some] <;> rfl) | (simp [*, errW_none, errW_some] <;> rfl), by repeat (first | (with_reducible first | exact HB.out | apply below_alloc | apply pw_below_drewN | apply below_drew1) | exact HB.out)⟩
                          · rw [if_neg c80] at H
                            have c80b0 : decide (3 < t211) = false := decide_eq_false c80
                            clear c80
                            obtain rfl := Option.some.inj H
                            go_wp2_with (first | ((with_reducible refine gate_callee (f := 22) rfl ?_); refine goesL_ (some 85) rfl rfl Tryd.func22 (by kernel_rfl) rfl #[.int .i64 a0] rfl (by (try simp only [List.map_toArray, List.map_cons, List.map_nil]); first | done | rfl | (simp only [List.length_drop, List.length_take]; rfl) | (rw [extract_all]; rfl)) ?_; (with_reducible refine (token_Plain.calls a0 t209 _ A74.out).mono ?_); rintro e w' ⟨rfl, ⟨nd, rfl⟩⟩; refine ⟨_, rfl, ?_⟩) | (go_at_call 21; (with_reducible refine (token_Name.calls kj56 t209 t210 _ A76.out).mono ?_); rintro e w83 ⟨rfl, hb⟩; have n0_ := Aside0.mk (below_step (by repeat (first | (with_reducible first | exact HB.out | apply below_alloc | apply pw_below_drewN | apply below_drew1) | exact HB.out)) hb); clear HB; have HB := n0_; clear n0_; (try clear hb); (try clear hb2); (try clear hk); (try clear hi)) | (go_at_call 23; (with_reducible refine (token_Precedence.calls kj56 t209 t211 _ A79.out).mono ?_); rintro e w' ⟨rfl, ⟨nd, rfl⟩⟩))
                            go_ret
                            exact ⟨by first | rfl | (simp [errW_none, errW_some] <;> rfl) | (simp [*, errW_none, errW_some] <;> rfl), by repeat (first | (with_reducible first | exact HB.out | apply below_alloc | apply pw_below_drewN | apply below_drew1) | exact HB.out)⟩
                        · rw [if_neg c78] at H
                          have c78b0 : ((t210 ++ (⟨#[61]⟩ : ByteArray)).toList == t195.toList) = false := beq_eq_false_iff_ne.mpr c78
                          have c78b1 : ((t210 ++ (⟨#[61]⟩ : ByteArray)).toList != t195.toList) = true := bne_iff_ne.mpr c78
                          obtain rfl := Option.some.inj H
                          go_wp2_with (first | ((with_reducible refine gate_callee (f := 22) rfl ?_); refine goesL_ (some 85) rfl rfl Tryd.func22 (by kernel_rfl) rfl #[.int .i64 a0] rfl (by (try simp only [List.map_toArray, List.map_cons, List.map_nil]); first | done | rfl | (simp only [List.length_drop, List.length_take]; rfl) | (rw [extract_all]; rfl)) ?_; (with_reducible refine (token_Plain.calls a0 t209 _ A74.out).mono ?_); rintro e w' ⟨rfl, ⟨nd, rfl⟩⟩; refine ⟨_, rfl, ?_⟩) | (go_at_call 21; (with_reducible refine (token_Name.calls kj56 t209 t210 _ A76.out).mono ?_); rintro e w84 ⟨rfl, hb⟩; have n0_ := Aside0.mk (below_step (by repeat (first | (with_reducible first | exact HB.out | apply below_alloc | apply pw_below_drewN | apply below_drew1) | exact HB.out)) hb); clear HB; have HB := n0_; clear n0_; (try clear hb); (try clear hb2); (try clear hk); (try clear hi)))
                          go_ret
                          exact ⟨by first | rfl | (simp [errW_none, errW_some] <;> rfl) | (simp [*, errW_none, errW_some] <;> rfl), by repeat (first | (with_reducible first | exact HB.out | apply below_alloc | apply pw_below_drewN | apply below_drew1) | exact HB.out)⟩
                      · rw [if_neg c77] at H
                        exact absurd H (by simp)
    · replace c5 := Bool.eq_false_iff.mpr c5
      subst c5
      have H1 : (some false) = some r := by rw [if_neg (show ¬ (false = true) by decide)] at H; exact H
      clear H
      have H := H1
      clear H1
      obtain rfl := Option.some.inj H
      go_enter Tryd.func8, Tryd.ntmps8
      go_wp2_with (first | ((with_reducible refine gate_callee (f := 10) rfl ?_); refine goesL_ (some 14) rfl rfl Tryd.func10 (by kernel_rfl) rfl #[] rfl (by (try simp only [List.map_toArray, List.map_cons, List.map_nil]); first | done | rfl | (simp only [List.length_drop, List.length_take]; rfl) | (rw [extract_all]; rfl)) ?_; (with_reducible refine (scholiastlaw02_shown.calls k  false _ ?side1 A4.out).mono ?_); (case side1 => exact Tabs.below HT (by repeat (first | (with_reducible first | exact HB.out | apply below_alloc | apply pw_below_drewN | apply below_drew1) | exact HB.out))); rintro e w85 ⟨rfl, hb⟩; refine ⟨_, rfl, ?_⟩; have n0_ := Aside0.mk (below_step (by repeat (first | (with_reducible first | exact HB.out | apply below_alloc | apply pw_below_drewN | apply below_drew1) | exact HB.out)) hb); clear HB; have HB := n0_; clear n0_; (try clear hb); (try clear hb2); (try clear hk); (try clear hi)))
      go_ret
      exact ⟨by first | rfl | (simp [errW_none, errW_some] <;> rfl) | (simp [*, errW_none, errW_some] <;> rfl), by repeat (first | (with_reducible first | exact HB.out | apply below_alloc | apply pw_below_drewN | apply below_drew1) | exact HB.out)⟩

/-- THE ONE PURE STATEMENT of scholiastlaw02_TokenBack: yours. -/
def scholiastlaw02_TokenBack.Pure : Prop := ∀ (a0 : Int) (a1 : ByteArray), (Lit.int .i64 a0).wf = true → a1.size ≤ 140737488351232 → ∃ k, scholiastlaw02_TokenBack.f k a0 a1 = some true
theorem scholiastlaw02_TokenBack.walk (P : scholiastlaw02_TokenBack.Pure) (a0 : Int) (a1 : ByteArray) (w : World) (w0 : (Lit.int .i64 a0).wf = true) (w1 : a1.size ≤ 140737488351232)(HT : Tabs w) :
    Calls Tryd.prog 8 #[.int .i64 a0, .string a1] w fun e w' => e = .returned (.bool true) ∧ Below w.heap.size w w' := by
  obtain ⟨k, h⟩ := P a0 a1 w0 w1
  refine (scholiastlaw02_TokenBack.calls k a0 a1 true w HT h).mono ?_
  rintro e w' ⟨rfl, hd⟩
  exact ⟨rfl, hd⟩

end Go.Proofs.YtkpceagbjodbbaaDoor.PB
