-- Printed by a program of this session (wip/xprint.py) for this claim: Lean checks it.
import Derived.Test.YtkpceagbjodbbaaDoorPB0
import Derived.Test.YtkpceagbjodbbaaDoorPB1
import Derived.Test.YtkpceagbjodbbaaDoorPA5
import Derived.Test.YtkpceagbjodbbaaDoorX1
namespace Go.Proofs.YtkpceagbjodbbaaDoor.PB
open Go.RowKit Go.Proofs.YtkpceagbjodbbaaDoor.Ext Go.Proofs.YtkpceagbjodbbaaDoor.PA Go.Proofs.YtkpceagbjodbbaaDoorW.PrintWords Go.Proofs.YtkpceagbjodbbaaDoorW.PrintLast Go.Proofs.YtkpceagbjodbbaaDoorW.PrintMore
attribute [local go_sem] max2_int min2_int max_two min_two max_three min_three max_four min_four IntKind.wrap_u8   -- for this text's walks alone
set_option linter.unusedVariables false
set_option linter.unusedSimpArgs false

/-! ### scholiastlaw02_TokenNumbers: function 5 -/
mutual
def scholiastlaw02_TokenNumbers.j0 : Nat → Int → ByteArray → List ByteArray → Option (Bool)
  | 0, _, _, _ => none
  | k + 1, x3, x4, x6 => scholiastlaw02_TokenNumbers.l0 k x3 x4 x6 (x6.length : Int) 0
def scholiastlaw02_TokenNumbers.l0 : Nat → Int → ByteArray → List ByteArray → Int → Int → Option (Bool)
  | 0, _, _, _, _, _ => none
  | k + 1, x3, x4, x48, x49, x50 => if x50 < x49 then (if 0 ≤ x50 then (if x50 < (x48.length : Int) then (if (rdOf ByteArray.empty x48 x50).toList = ([] : List UInt8) then (scholiastlaw02_TokenNumbers.j2 k x3 x4 (rdOf ByteArray.empty x48 x50) (rdOf ByteArray.empty x48 x50) (⟨#[]⟩ : ByteArray) x48 x49 x50) else (scholiastlaw02_TokenNumbers.j2 k x3 x4 (rdOf ByteArray.empty x48 x50) (rdOf ByteArray.empty x48 x50) (⟨#[95]⟩ : ByteArray) x48 x49 x50)) else (none)) else (none)) else (some true)
def scholiastlaw02_TokenNumbers.j2 : Nat → Int → ByteArray → ByteArray → ByteArray → ByteArray → List ByteArray → Int → Int → Option (Bool)
  | 0, _, _, _, _, _, _, _, _ => none
  | k + 1, x3, x4, x8, x9, x10, x48, x49, x50 => scholiastlaw02_TokenNumbers.l1 k x3 x4 x8 x9 x10 x48 x49 x50 (x4.size : Int) 0
def scholiastlaw02_TokenNumbers.l1 : Nat → Int → ByteArray → ByteArray → ByteArray → ByteArray → List ByteArray → Int → Int → Int → Int → Option (Bool)
  | 0, _, _, _, _, _, _, _, _, _, _ => none
  | k + 1, x3, x4, x8, x9, x10, x48, x49, x50, x58, x59 => if x59 < x58 then (if x59 > 0 then (if x9.size + 1 ≤ 9223372036854775807 then (if 0 ≤ x59 then (if x59 ≤ (wrap64 (x59 + 1)) then (if (wrap64 (x59 + 1)) ≤ (x4.size : Int) then (if (x9 ++ (⟨#[95]⟩ : ByteArray)).size + (x4.extract (x59 : Int).toNat ((wrap64 (x59 + 1)) : Int).toNat).size ≤ 9223372036854775807 then (scholiastlaw02_TokenNumbers.l1 k x3 x4 x8 ((x9 ++ (⟨#[95]⟩ : ByteArray)) ++ (x4.extract (x59 : Int).toNat ((wrap64 (x59 + 1)) : Int).toNat)) x10 x48 x49 x50 x58 (wrap64 (x59 + 1))) else (none)) else (none)) else (none)) else (none)) else (none)) else (if x10.toList = ([] : List UInt8) then (if 0 ≤ x59 then (if x59 ≤ (wrap64 (x59 + 1)) then (if (wrap64 (x59 + 1)) ≤ (x4.size : Int) then (if x9.size + (x4.extract (x59 : Int).toNat ((wrap64 (x59 + 1)) : Int).toNat).size ≤ 9223372036854775807 then (scholiastlaw02_TokenNumbers.l1 k x3 x4 x8 (x9 ++ (x4.extract (x59 : Int).toNat ((wrap64 (x59 + 1)) : Int).toNat)) x10 x48 x49 x50 x58 (wrap64 (x59 + 1))) else (none)) else (none)) else (none)) else (none)) else (if x9.size + 1 ≤ 9223372036854775807 then (if 0 ≤ x59 then (if x59 ≤ (wrap64 (x59 + 1)) then (if (wrap64 (x59 + 1)) ≤ (x4.size : Int) then (if (x9 ++ (⟨#[95]⟩ : ByteArray)).size + (x4.extract (x59 : Int).toNat ((wrap64 (x59 + 1)) : Int).toNat).size ≤ 9223372036854775807 then (scholiastlaw02_TokenNumbers.l1 k x3 x4 x8 ((x9 ++ (⟨#[95]⟩ : ByteArray)) ++ (x4.extract (x59 : Int).toNat ((wrap64 (x59 + 1)) : Int).toNat)) x10 x48 x49 x50 x58 (wrap64 (x59 + 1))) else (none)) else (none)) else (none)) else (none)) else (none)))) else ((token_Digits.f k x9).bind fun bt145 => (if x8.size + x4.size ≤ 9223372036854775807 then ((token_Digits.f k (x8 ++ x4)).bind fun bt148 => (if bt145.1 = x3 then (if bt145.2.1.toList = x4.toList then (if bt145.2.2 = true then (if bt148.1 = x3 then (if bt148.2.1.toList = x4.toList then (scholiastlaw02_TokenNumbers.j4 k x3 x4 x9 x48 x49 x50 (!bt148.2.2)) else (scholiastlaw02_TokenNumbers.j4 k x3 x4 x9 x48 x49 x50 true)) else (scholiastlaw02_TokenNumbers.j4 k x3 x4 x9 x48 x49 x50 true)) else (scholiastlaw02_TokenNumbers.j4 k x3 x4 x9 x48 x49 x50 true)) else (scholiastlaw02_TokenNumbers.j4 k x3 x4 x9 x48 x49 x50 true)) else (scholiastlaw02_TokenNumbers.j4 k x3 x4 x9 x48 x49 x50 true))) else (none)))
def scholiastlaw02_TokenNumbers.j4 : Nat → Int → ByteArray → ByteArray → List ByteArray → Int → Int → Bool → Option (Bool)
  | 0, _, _, _, _, _, _, _ => none
  | k + 1, x3, x4, x9, x48, x49, x50, x117 => if x117 = true then (some false) else (if x9.size + 1 ≤ 9223372036854775807 then ((token_Digits.f k (x9 ++ (⟨#[95]⟩ : ByteArray))).bind fun bt151 => ((token_Digits.f k (x9 ++ (⟨#[103]⟩ : ByteArray))).bind fun bt154 => (if bt151.2.2 = true then (some false) else (if bt154.2.2 = true then (some false) else (scholiastlaw02_TokenNumbers.l0 k x3 x4 x48 x49 (wrap64 (x50 + 1))))))) else (none))
end
def scholiastlaw02_TokenNumbers.f (k : Nat) (a0 : ByteArray) : Option (Bool) := if (a0.size : Int) > 4096 then (some true) else ((scholiastlaw02_shown.f k).bind fun t128 => (if t128 = true then ((token_Digits.f k a0).bind fun bt129 => (if bt129.2.2 = true then (if bt129.1 = 8 then (scholiastlaw02_TokenNumbers.j0 k bt129.1 bt129.2.1 (([(⟨#[48, 111]⟩ : ByteArray), (⟨#[48, 79]⟩ : ByteArray), (⟨#[48]⟩ : ByteArray)] : List ByteArray))) else (if bt129.1 = 16 then (scholiastlaw02_TokenNumbers.j0 k bt129.1 bt129.2.1 (([(⟨#[48, 120]⟩ : ByteArray), (⟨#[48, 88]⟩ : ByteArray)] : List ByteArray))) else (if bt129.1 = 10 then (scholiastlaw02_TokenNumbers.j0 k bt129.1 bt129.2.1 (([(⟨#[]⟩ : ByteArray)] : List ByteArray))) else (scholiastlaw02_TokenNumbers.j0 k bt129.1 bt129.2.1 (([(⟨#[48, 98]⟩ : ByteArray), (⟨#[48, 66]⟩ : ByteArray)] : List ByteArray)))))) else (if bt129.1 = 0 then (some (bt129.2.1.toList == ([] : List UInt8))) else (some false)))) else (some false)))
theorem scholiastlaw02_TokenNumbers.mono_l : ∀ k, (∀ y0 y1 y2, LeO (scholiastlaw02_TokenNumbers.j0 k y0 y1 y2) (scholiastlaw02_TokenNumbers.j0 (k + 1) y0 y1 y2)) ∧ (∀ y0 y1 y2 y3 y4, LeO (scholiastlaw02_TokenNumbers.l0 k y0 y1 y2 y3 y4) (scholiastlaw02_TokenNumbers.l0 (k + 1) y0 y1 y2 y3 y4)) ∧ (∀ y0 y1 y2 y3 y4 y5 y6 y7, LeO (scholiastlaw02_TokenNumbers.j2 k y0 y1 y2 y3 y4 y5 y6 y7) (scholiastlaw02_TokenNumbers.j2 (k + 1) y0 y1 y2 y3 y4 y5 y6 y7)) ∧ (∀ y0 y1 y2 y3 y4 y5 y6 y7 y8 y9, LeO (scholiastlaw02_TokenNumbers.l1 k y0 y1 y2 y3 y4 y5 y6 y7 y8 y9) (scholiastlaw02_TokenNumbers.l1 (k + 1) y0 y1 y2 y3 y4 y5 y6 y7 y8 y9)) ∧ (∀ y0 y1 y2 y3 y4 y5 y6, LeO (scholiastlaw02_TokenNumbers.j4 k y0 y1 y2 y3 y4 y5 y6) (scholiastlaw02_TokenNumbers.j4 (k + 1) y0 y1 y2 y3 y4 y5 y6))
  | 0 => ⟨fun _ _ _ r h => by simp [scholiastlaw02_TokenNumbers.j0] at h, fun _ _ _ _ _ r h => by simp [scholiastlaw02_TokenNumbers.l0] at h, fun _ _ _ _ _ _ _ _ r h => by simp [scholiastlaw02_TokenNumbers.j2] at h, fun _ _ _ _ _ _ _ _ _ _ r h => by simp [scholiastlaw02_TokenNumbers.l1] at h, fun _ _ _ _ _ _ _ r h => by simp [scholiastlaw02_TokenNumbers.j4] at h⟩
  | k + 1 => by
    obtain ⟨ih0, ih1, ih2, ih3, ih4⟩ := scholiastlaw02_TokenNumbers.mono_l k
    refine ⟨?_, ?_, ?_, ?_, ?_⟩
    · intro y0 y1 y2
      unfold scholiastlaw02_TokenNumbers.j0
      repeat' first
      | (with_reducible exact ih0 _ _ _)
      | (with_reducible exact ih1 _ _ _ _ _)
      | (with_reducible exact ih2 _ _ _ _ _ _ _ _)
      | (with_reducible exact ih3 _ _ _ _ _ _ _ _ _ _)
      | (with_reducible exact ih4 _ _ _ _ _ _ _)
      | (with_reducible exact scholiastlaw02_shown.mono _)
      | (with_reducible exact token_Digits.mono _ _)
      | (with_reducible exact LeO.refl _)
      | (with_reducible exact LeO.none _)
      | (with_reducible refine LeO.ite ?_ ?_)
      | (with_reducible refine LeO.bind ?_ (fun _ => ?_))
      | exact ih0 _ _ _
      | exact ih1 _ _ _ _ _
      | exact ih2 _ _ _ _ _ _ _ _
      | exact ih3 _ _ _ _ _ _ _ _ _ _
      | exact ih4 _ _ _ _ _ _ _
      | exact scholiastlaw02_shown.mono _
      | exact token_Digits.mono _ _
      | exact LeO.none _
      | refine LeO.ite ?_ ?_
      | refine LeO.bind ?_ (fun _ => ?_)
    · intro y0 y1 y2 y3 y4
      unfold scholiastlaw02_TokenNumbers.l0
      repeat' first
      | (with_reducible exact ih0 _ _ _)
      | (with_reducible exact ih1 _ _ _ _ _)
      | (with_reducible exact ih2 _ _ _ _ _ _ _ _)
      | (with_reducible exact ih3 _ _ _ _ _ _ _ _ _ _)
      | (with_reducible exact ih4 _ _ _ _ _ _ _)
      | (with_reducible exact scholiastlaw02_shown.mono _)
      | (with_reducible exact token_Digits.mono _ _)
      | (with_reducible exact LeO.refl _)
      | (with_reducible exact LeO.none _)
      | (with_reducible refine LeO.ite ?_ ?_)
      | (with_reducible refine LeO.bind ?_ (fun _ => ?_))
      | exact ih0 _ _ _
      | exact ih1 _ _ _ _ _
      | exact ih2 _ _ _ _ _ _ _ _
      | exact ih3 _ _ _ _ _ _ _ _ _ _
      | exact ih4 _ _ _ _ _ _ _
      | exact scholiastlaw02_shown.mono _
      | exact token_Digits.mono _ _
      | exact LeO.none _
      | refine LeO.ite ?_ ?_
      | refine LeO.bind ?_ (fun _ => ?_)
    · intro y0 y1 y2 y3 y4 y5 y6 y7
      unfold scholiastlaw02_TokenNumbers.j2
      repeat' first
      | (with_reducible exact ih0 _ _ _)
      | (with_reducible exact ih1 _ _ _ _ _)
      | (with_reducible exact ih2 _ _ _ _ _ _ _ _)
      | (with_reducible exact ih3 _ _ _ _ _ _ _ _ _ _)
      | (with_reducible exact ih4 _ _ _ _ _ _ _)
      | (with_reducible exact scholiastlaw02_shown.mono _)
      | (with_reducible exact token_Digits.mono _ _)
      | (with_reducible exact LeO.refl _)
      | (with_reducible exact LeO.none _)
      | (with_reducible refine LeO.ite ?_ ?_)
      | (with_reducible refine LeO.bind ?_ (fun _ => ?_))
      | exact ih0 _ _ _
      | exact ih1 _ _ _ _ _
      | exact ih2 _ _ _ _ _ _ _ _
      | exact ih3 _ _ _ _ _ _ _ _ _ _
      | exact ih4 _ _ _ _ _ _ _
      | exact scholiastlaw02_shown.mono _
      | exact token_Digits.mono _ _
      | exact LeO.none _
      | refine LeO.ite ?_ ?_
      | refine LeO.bind ?_ (fun _ => ?_)
    · intro y0 y1 y2 y3 y4 y5 y6 y7 y8 y9
      unfold scholiastlaw02_TokenNumbers.l1
      repeat' first
      | (with_reducible exact ih0 _ _ _)
      | (with_reducible exact ih1 _ _ _ _ _)
      | (with_reducible exact ih2 _ _ _ _ _ _ _ _)
      | (with_reducible exact ih3 _ _ _ _ _ _ _ _ _ _)
      | (with_reducible exact ih4 _ _ _ _ _ _ _)
      | (with_reducible exact scholiastlaw02_shown.mono _)
      | (with_reducible exact token_Digits.mono _ _)
      | (with_reducible exact LeO.refl _)
      | (with_reducible exact LeO.none _)
      | (with_reducible refine LeO.ite ?_ ?_)
      | (with_reducible refine LeO.bind ?_ (fun _ => ?_))
      | exact ih0 _ _ _
      | exact ih1 _ _ _ _ _
      | exact ih2 _ _ _ _ _ _ _ _
      | exact ih3 _ _ _ _ _ _ _ _ _ _
      | exact ih4 _ _ _ _ _ _ _
      | exact scholiastlaw02_shown.mono _
      | exact token_Digits.mono _ _
      | exact LeO.none _
      | refine LeO.ite ?_ ?_
      | refine LeO.bind ?_ (fun _ => ?_)
    · intro y0 y1 y2 y3 y4 y5 y6
      unfold scholiastlaw02_TokenNumbers.j4
      repeat' first
      | (with_reducible exact ih0 _ _ _)
      | (with_reducible exact ih1 _ _ _ _ _)
      | (with_reducible exact ih2 _ _ _ _ _ _ _ _)
      | (with_reducible exact ih3 _ _ _ _ _ _ _ _ _ _)
      | (with_reducible exact ih4 _ _ _ _ _ _ _)
      | (with_reducible exact scholiastlaw02_shown.mono _)
      | (with_reducible exact token_Digits.mono _ _)
      | (with_reducible exact LeO.refl _)
      | (with_reducible exact LeO.none _)
      | (with_reducible refine LeO.ite ?_ ?_)
      | (with_reducible refine LeO.bind ?_ (fun _ => ?_))
      | exact ih0 _ _ _
      | exact ih1 _ _ _ _ _
      | exact ih2 _ _ _ _ _ _ _ _
      | exact ih3 _ _ _ _ _ _ _ _ _ _
      | exact ih4 _ _ _ _ _ _ _
      | exact scholiastlaw02_shown.mono _
      | exact token_Digits.mono _ _
      | exact LeO.none _
      | refine LeO.ite ?_ ?_
      | refine LeO.bind ?_ (fun _ => ?_)
theorem scholiastlaw02_TokenNumbers.mono : ∀ a0 k, LeO (scholiastlaw02_TokenNumbers.f k a0) (scholiastlaw02_TokenNumbers.f (k + 1) a0) := by
  intro a0 k
  obtain ⟨ih0, ih1, ih2, ih3, ih4⟩ := scholiastlaw02_TokenNumbers.mono_l k
  unfold scholiastlaw02_TokenNumbers.f
  repeat' first
      | (with_reducible exact ih0 _ _ _)
      | (with_reducible exact ih1 _ _ _ _ _)
      | (with_reducible exact ih2 _ _ _ _ _ _ _ _)
      | (with_reducible exact ih3 _ _ _ _ _ _ _ _ _ _)
      | (with_reducible exact ih4 _ _ _ _ _ _ _)
      | (with_reducible exact scholiastlaw02_shown.mono _)
      | (with_reducible exact token_Digits.mono _ _)
      | (with_reducible exact LeO.refl _)
      | (with_reducible exact LeO.none _)
      | (with_reducible refine LeO.ite ?_ ?_)
      | (with_reducible refine LeO.bind ?_ (fun _ => ?_))
      | exact ih0 _ _ _
      | exact ih1 _ _ _ _ _
      | exact ih2 _ _ _ _ _ _ _ _
      | exact ih3 _ _ _ _ _ _ _ _ _ _
      | exact ih4 _ _ _ _ _ _ _
      | exact scholiastlaw02_shown.mono _
      | exact token_Digits.mono _ _
      | exact LeO.none _
      | refine LeO.ite ?_ ?_
      | refine LeO.bind ?_ (fun _ => ?_)
set_option maxHeartbeats 8000000 in
set_option maxRecDepth 100000 in
theorem scholiastlaw02_TokenNumbers.calls (k : Nat) (a0 : ByteArray) (r : Bool) (w : World) (HT : Tabs w) (h : scholiastlaw02_TokenNumbers.f k a0 = some r) :
    Calls Tryd.prog 5 #[.string a0] w fun e w' => e = .returned (.bool r) ∧ Below w.heap.size w w' := by
  have HB := Aside0.mk (Below.refl w.heap.size w)
  have H : (if (a0.size : Int) > 4096 then (some true) else ((scholiastlaw02_shown.f k).bind fun t128 => (if t128 = true then ((token_Digits.f k a0).bind fun bt129 => (if bt129.2.2 = true then (if bt129.1 = 8 then (scholiastlaw02_TokenNumbers.j0 k bt129.1 bt129.2.1 (([(⟨#[48, 111]⟩ : ByteArray), (⟨#[48, 79]⟩ : ByteArray), (⟨#[48]⟩ : ByteArray)] : List ByteArray))) else (if bt129.1 = 16 then (scholiastlaw02_TokenNumbers.j0 k bt129.1 bt129.2.1 (([(⟨#[48, 120]⟩ : ByteArray), (⟨#[48, 88]⟩ : ByteArray)] : List ByteArray))) else (if bt129.1 = 10 then (scholiastlaw02_TokenNumbers.j0 k bt129.1 bt129.2.1 (([(⟨#[]⟩ : ByteArray)] : List ByteArray))) else (scholiastlaw02_TokenNumbers.j0 k bt129.1 bt129.2.1 (([(⟨#[48, 98]⟩ : ByteArray), (⟨#[48, 66]⟩ : ByteArray)] : List ByteArray)))))) else (if bt129.1 = 0 then (some (bt129.2.1.toList == ([] : List UInt8))) else (some false)))) else (some false)))) = some r := h
  clear h
  by_cases c2 : (a0.size : Int) > 4096
  · rw [if_pos c2] at H
    have c2b0 : decide (4096 < (a0.size : Int)) = true := decide_eq_true c2
    have c2b1 : decide (4096 < a0.size) = true := decide_eq_true (by omega)
    clear c2
    obtain rfl := Option.some.inj H
    go_enter Tryd.func5, Tryd.ntmps5
    go_wp2
    go_ret
    exact ⟨by first | rfl | (simp [errW_none, errW_some] <;> rfl) | (simp [*, errW_none, errW_some] <;> rfl), by repeat (first | (with_reducible first | exact HB.out | apply below_alloc | apply pw_below_drewN | apply below_drew1) | exact HB.out)⟩
  · rw [if_neg c2] at H
    have c2b0 : decide (4096 < (a0.size : Int)) = false := decide_eq_false c2
    have c2b1 : decide (4096 < a0.size) = false := decide_eq_false (by omega)
    clear c2
    replace H := Option.bind_eq_some_iff.mp H
    obtain ⟨t128, A30, H⟩ := H
    replace H : (if t128 = true then ((token_Digits.f k a0).bind fun bt129 => (if bt129.2.2 = true then (if bt129.1 = 8 then (scholiastlaw02_TokenNumbers.j0 k bt129.1 bt129.2.1 (([(⟨#[48, 111]⟩ : ByteArray), (⟨#[48, 79]⟩ : ByteArray), (⟨#[48]⟩ : ByteArray)] : List ByteArray))) else (if bt129.1 = 16 then (scholiastlaw02_TokenNumbers.j0 k bt129.1 bt129.2.1 (([(⟨#[48, 120]⟩ : ByteArray), (⟨#[48, 88]⟩ : ByteArray)] : List ByteArray))) else (if bt129.1 = 10 then (scholiastlaw02_TokenNumbers.j0 k bt129.1 bt129.2.1 (([(⟨#[]⟩ : ByteArray)] : List ByteArray))) else (scholiastlaw02_TokenNumbers.j0 k bt129.1 bt129.2.1 (([(⟨#[48, 98]⟩ : ByteArray), (⟨#[48, 66]⟩ : ByteArray)] : List ByteArray)))))) else (if bt129.1 = 0 then (some (bt129.2.1.toList == ([] : List UInt8))) else (some false)))) else (some false)) = some r := H
    have A3 := Aside0.mk A30
    clear A30
    by_cases c4 : t128 = true
    · subst c4
      have H1 : ((token_Digits.f k a0).bind fun bt129 => (if bt129.2.2 = true then (if bt129.1 = 8 then (scholiastlaw02_TokenNumbers.j0 k bt129.1 bt129.2.1 (([(⟨#[48, 111]⟩ : ByteArray), (⟨#[48, 79]⟩ : ByteArray), (⟨#[48]⟩ : ByteArray)] : List ByteArray))) else (if bt129.1 = 16 then (scholiastlaw02_TokenNumbers.j0 k bt129.1 bt129.2.1 (([(⟨#[48, 120]⟩ : ByteArray), (⟨#[48, 88]⟩ : ByteArray)] : List ByteArray))) else (if bt129.1 = 10 then (scholiastlaw02_TokenNumbers.j0 k bt129.1 bt129.2.1 (([(⟨#[]⟩ : ByteArray)] : List ByteArray))) else (scholiastlaw02_TokenNumbers.j0 k bt129.1 bt129.2.1 (([(⟨#[48, 98]⟩ : ByteArray), (⟨#[48, 66]⟩ : ByteArray)] : List ByteArray)))))) else (if bt129.1 = 0 then (some (bt129.2.1.toList == ([] : List UInt8))) else (some false)))) = some r := by rw [if_pos rfl] at H; exact H
      clear H
      have H := H1
      clear H1
      replace H := Option.bind_eq_some_iff.mp H
      obtain ⟨⟨t129, t130, t131⟩, A50, H⟩ := H
      replace H : (if t131 = true then (if t129 = 8 then (scholiastlaw02_TokenNumbers.j0 k t129 t130 (([(⟨#[48, 111]⟩ : ByteArray), (⟨#[48, 79]⟩ : ByteArray), (⟨#[48]⟩ : ByteArray)] : List ByteArray))) else (if t129 = 16 then (scholiastlaw02_TokenNumbers.j0 k t129 t130 (([(⟨#[48, 120]⟩ : ByteArray), (⟨#[48, 88]⟩ : ByteArray)] : List ByteArray))) else (if t129 = 10 then (scholiastlaw02_TokenNumbers.j0 k t129 t130 (([(⟨#[]⟩ : ByteArray)] : List ByteArray))) else (scholiastlaw02_TokenNumbers.j0 k t129 t130 (([(⟨#[48, 98]⟩ : ByteArray), (⟨#[48, 66]⟩ : ByteArray)] : List ByteArray)))))) else (if t129 = 0 then (some (t130.toList == ([] : List UInt8))) else (some false))) = some r := H
      have A5 := Aside0.mk A50
      clear A50
      by_cases c6 : t131 = true
      · subst c6
        have H1 : (if t129 = 8 then (scholiastlaw02_TokenNumbers.j0 k t129 t130 (([(⟨#[48, 111]⟩ : ByteArray), (⟨#[48, 79]⟩ : ByteArray), (⟨#[48]⟩ : ByteArray)] : List ByteArray))) else (if t129 = 16 then (scholiastlaw02_TokenNumbers.j0 k t129 t130 (([(⟨#[48, 120]⟩ : ByteArray), (⟨#[48, 88]⟩ : ByteArray)] : List ByteArray))) else (if t129 = 10 then (scholiastlaw02_TokenNumbers.j0 k t129 t130 (([(⟨#[]⟩ : ByteArray)] : List ByteArray))) else (scholiastlaw02_TokenNumbers.j0 k t129 t130 (([(⟨#[48, 98]⟩ : ByteArray), (⟨#[48, 66]⟩ : ByteArray)] : List ByteArray)))))) = some r := by rw [if_pos rfl] at H; exact H
        clear H
        have H := H1
        clear H1
        obtain ⟨y132, hy132⟩ : ∃ y_ : List ByteArray, y_ = (([(⟨#[48, 98]⟩ : ByteArray), (⟨#[48, 66]⟩ : ByteArray)] : List ByteArray)) := ⟨_, rfl⟩
        replace H : (if t129 = 8 then (scholiastlaw02_TokenNumbers.j0 k t129 t130 (([(⟨#[48, 111]⟩ : ByteArray), (⟨#[48, 79]⟩ : ByteArray), (⟨#[48]⟩ : ByteArray)] : List ByteArray))) else (if t129 = 16 then (scholiastlaw02_TokenNumbers.j0 k t129 t130 (([(⟨#[48, 120]⟩ : ByteArray), (⟨#[48, 88]⟩ : ByteArray)] : List ByteArray))) else (if t129 = 10 then (scholiastlaw02_TokenNumbers.j0 k t129 t130 (([(⟨#[]⟩ : ByteArray)] : List ByteArray))) else (scholiastlaw02_TokenNumbers.j0 k t129 t130 y132)))) = some r := by first | (rw [hy132]; with_reducible exact H) | (have H2_ := (Option.bind_some _ _).symm.trans H; rw [hy132]; with_reducible exact H2_) | (have H2_ := (Option.bind_some _ _).symm.trans H; with_reducible exact H2_) | with_reducible exact H | (rw [hy132]; exact H) | exact H
        have Ny132 := Aside0.mk hy132
        clear hy132
        have HC7 := Aside0.mk H
        clear H
        go_enter Tryd.func5, Tryd.ntmps5
        go_upto_block 0 with (first | ((with_reducible refine gate_callee (f := 10) rfl ?_); refine goesL_ (some 21) rfl rfl Tryd.func10 (by kernel_rfl) rfl #[] rfl (by (try simp only [List.map_toArray, List.map_cons, List.map_nil]); first | done | rfl | (simp only [List.length_drop, List.length_take]; rfl) | (rw [extract_all]; rfl)) ?_; (with_reducible refine (scholiastlaw02_shown.calls k  true _ ?side1 A3.out).mono ?_); (case side1 => exact Tabs.below HT (by repeat (first | (with_reducible first | exact HB.out | apply below_alloc | apply pw_below_drewN | apply below_drew1) | exact HB.out))); rintro e w8 ⟨rfl, hb⟩; refine ⟨_, rfl, ?_⟩; have n0_ := Aside0.mk (below_step (by repeat (first | (with_reducible first | exact HB.out | apply below_alloc | apply pw_below_drewN | apply below_drew1) | exact HB.out)) hb); clear HB; have HB := n0_; clear n0_; (try clear hb); (try clear hb2); (try clear hk); (try clear hi)) | ((with_reducible refine gate_callee (f := 15) rfl ?_); refine goesL_ (some 25) rfl rfl Tryd.func15 (by kernel_rfl) rfl #[.string a0] rfl (by (try simp only [List.map_toArray, List.map_cons, List.map_nil]); first | done | rfl | (simp only [List.length_drop, List.length_take]; rfl) | (rw [extract_all]; rfl)) ?_; (with_reducible refine (token_Digits.calls k a0 t129 t130 true _ ?side1 A5.out).mono ?_); (case side1 => exact Tabs.below HT (by repeat (first | (with_reducible first | exact HB.out | apply below_alloc | apply pw_below_drewN | apply below_drew1) | exact HB.out))); rintro e w9 ⟨rfl, hb⟩; refine ⟨_, rfl, ?_⟩; have n0_ := Aside0.mk (below_step (by repeat (first | (with_reducible first | exact HB.out | apply below_alloc | apply pw_below_drewN | apply below_drew1) | exact HB.out)) hb); clear HB; have HB := n0_; clear n0_; (try clear hb); (try clear hb2); (try clear hk); (try clear hi)) | ((with_reducible refine gate_dst (N := 37) rfl ?_); refine Kd.R_lit Kd.string _ 9 ?hg (N := 37) ?hd (xs := ([(⟨#[48, 98]⟩ : ByteArray), (⟨#[48, 66]⟩ : ByteArray)] : List ByteArray)) (inner := [.string (⟨#[48, 98]⟩ : ByteArray), .string (⟨#[48, 66]⟩ : ByteArray)]) (ok := fun _ => True) (okp := fun _ => True) ?hr ?hp (fun _ hk => hk) trivial (Below.refl _ _) (Nat.le_refl _) (by simp) ?_; (case hd => rfl); (case hg => rfl); (case hr => first | (go_simp; done) | (go_simp; rfl)); (case hp => exact (Reps.one (show Kd.M Kd.string _ _ _ (⟨#[48, 98]⟩ : ByteArray) [.string (⟨#[48, 98]⟩ : ByteArray)] from rfl) (Reps.one (show Kd.M Kd.string _ _ _ (⟨#[48, 66]⟩ : ByteArray) [.string (⟨#[48, 66]⟩ : ByteArray)] from rfl) (Reps.none _ _)))); intro v133 w10 ho11 hb hg_ hnew_; clear hg_ hnew_; (first | rw [← Ny132.out] at ho11 | (simp only [Int.reduceToNat] at ho11; rw [← Ny132.out] at ho11)); have n0_ := Aside0.mk (Kd.R_lower ho11 (below_size (by repeat (first | (with_reducible first | exact HB.out | apply below_alloc | apply pw_below_drewN | apply below_drew1) | exact HB.out)))); have n1_ := Aside0.mk (below_step (by repeat (first | (with_reducible first | exact HB.out | apply below_alloc | apply pw_below_drewN | apply below_drew1) | exact HB.out)) hb); clear HB; have HO134 := n0_; have HB := n1_; clear n0_ n1_; clear hb ho11))
        (try simp only [Act.put, List.setIfInBounds_toArray, List.set_cons_zero, List.set_cons_succ])
        go_cut [6] (fun v6 wc => ∃ (kq : Nat) (x6_6 : List ByteArray), Aside0 (scholiastlaw02_TokenNumbers.j0 kq t129 t130 x6_6 = some r) ∧ Aside0 (kq ≤ k) ∧ Aside0 (Kd.R Kd.string 9 wc w.heap.size (fun _ => True) v6 x6_6) ∧ Aside0 (Below w.heap.size w wc))
        case first =>
          have H := HC7.out
          clear HC7
          by_cases c12 : t129 = 8
          · rw [if_pos c12] at H
            have c12b0 : (t129 == 8) = true := beq_iff_eq.mpr c12
            have c12b1 : (t129 != 8) = false := bne_eq_false_iff_eq.mpr c12
            clear c12
            (first | rw [c12b0] | (simp only [i64_w, i32_w]; rw [c12b0]) | skip)
            obtain ⟨y135, hy135⟩ : ∃ y_ : List ByteArray, y_ = (([(⟨#[48, 111]⟩ : ByteArray), (⟨#[48, 79]⟩ : ByteArray), (⟨#[48]⟩ : ByteArray)] : List ByteArray)) := ⟨_, rfl⟩
            replace H : (scholiastlaw02_TokenNumbers.j0 k t129 t130 y135) = some r := by first | (rw [hy135]; with_reducible exact H) | (have H2_ := (Option.bind_some _ _).symm.trans H; rw [hy135]; with_reducible exact H2_) | (have H2_ := (Option.bind_some _ _).symm.trans H; with_reducible exact H2_) | with_reducible exact H | (rw [hy135]; exact H) | exact H
            have Ny135 := Aside0.mk hy135
            clear hy135
            have H' := Aside0.mk H
            clear H
            go_wp2_with (first | ((with_reducible refine gate_dst (N := 41) rfl ?_); refine Kd.R_lit Kd.string _ 9 ?hg (N := 41) ?hd (xs := ([(⟨#[48, 111]⟩ : ByteArray), (⟨#[48, 79]⟩ : ByteArray), (⟨#[48]⟩ : ByteArray)] : List ByteArray)) (inner := [.string (⟨#[48, 111]⟩ : ByteArray), .string (⟨#[48, 79]⟩ : ByteArray), .string (⟨#[48]⟩ : ByteArray)]) (ok := fun _ => True) (okp := fun _ => True) ?hr ?hp (fun _ hk => hk) trivial (Below.refl _ _) (Nat.le_refl _) (by simp) ?_; (case hd => rfl); (case hg => rfl); (case hr => first | (go_simp; done) | (go_simp; rfl)); (case hp => exact (Reps.one (show Kd.M Kd.string _ _ _ (⟨#[48, 111]⟩ : ByteArray) [.string (⟨#[48, 111]⟩ : ByteArray)] from rfl) (Reps.one (show Kd.M Kd.string _ _ _ (⟨#[48, 79]⟩ : ByteArray) [.string (⟨#[48, 79]⟩ : ByteArray)] from rfl) (Reps.one (show Kd.M Kd.string _ _ _ (⟨#[48]⟩ : ByteArray) [.string (⟨#[48]⟩ : ByteArray)] from rfl) (Reps.none _ _))))); intro v136 w13 ho14 hb hg_ hnew_; clear hg_ hnew_; (first | rw [← Ny135.out] at ho14 | (simp only [Int.reduceToNat] at ho14; rw [← Ny135.out] at ho14)); have n0_ := Aside0.mk (Kd.R_elder' (by (with_reducible repeat (first | apply Kd.R_alloc | apply Kd.R_drewN | apply Kd.R_drew)); exact HO134.out) (Kd.R_base ho14) hb); have n1_ := Aside0.mk (Kd.R_lower (Kd.R_new' ho14 (Kd.R_lt (by (with_reducible repeat (first | apply Kd.R_alloc | apply Kd.R_drewN | apply Kd.R_drew)); exact HO134.out))) (below_size (by repeat (first | (with_reducible first | exact HB.out | apply below_alloc | apply pw_below_drewN | apply below_drew1) | exact HB.out)))); have n2_ := Aside0.mk (below_step (by repeat (first | (with_reducible first | exact HB.out | apply below_alloc | apply pw_below_drewN | apply below_drew1) | exact HB.out)) hb); clear HO134; clear HB; have HO134 := n0_; have HO137 := n1_; have HB := n2_; clear n0_ n1_ n2_; clear hb ho14))
            go_meet
            case rel => exact ⟨_, (y135), H', ⟨by first | omega | exact Nat.le_refl _⟩, ⟨by (with_reducible repeat (first | apply Kd.R_alloc | apply Kd.R_drewN | apply Kd.R_drew)); exact Kd.R_mono HO137.out (fun _ hk => trivial)⟩, ⟨by repeat (first | (with_reducible first | exact HB.out | apply below_alloc | apply pw_below_drewN | apply below_drew1) | exact HB.out)⟩⟩
          · rw [if_neg c12] at H
            have c12b0 : (t129 == 8) = false := beq_eq_false_iff_ne.mpr c12
            have c12b1 : (t129 != 8) = true := bne_iff_ne.mpr c12
            (first | rw [c12b0] | (simp only [i64_w, i32_w]; rw [c12b0]) | skip)
            by_cases c15 : t129 = 16
            · rw [if_pos c15] at H
              have c15b0 : (t129 == 16) = true := beq_iff_eq.mpr c15
              have c15b1 : (t129 != 16) = false := bne_eq_false_iff_eq.mpr c15
              clear c15
              obtain ⟨y138, hy138⟩ : ∃ y_ : List ByteArray, y_ = (([(⟨#[48, 120]⟩ : ByteArray), (⟨#[48, 88]⟩ : ByteArray)] : List ByteArray)) := ⟨_, rfl⟩
              replace H : (scholiastlaw02_TokenNumbers.j0 k t129 t130 y138) = some r := by first | (rw [hy138]; with_reducible exact H) | (have H2_ := (Option.bind_some _ _).symm.trans H; rw [hy138]; with_reducible exact H2_) | (have H2_ := (Option.bind_some _ _).symm.trans H; with_reducible exact H2_) | with_reducible exact H | (rw [hy138]; exact H) | exact H
              have Ny138 := Aside0.mk hy138
              clear hy138
              have H' := Aside0.mk H
              clear H
              go_wp2_with (first | ((with_reducible refine gate_dst (N := 44) rfl ?_); refine Kd.R_lit Kd.string _ 9 ?hg (N := 44) ?hd (xs := ([(⟨#[48, 120]⟩ : ByteArray), (⟨#[48, 88]⟩ : ByteArray)] : List ByteArray)) (inner := [.string (⟨#[48, 120]⟩ : ByteArray), .string (⟨#[48, 88]⟩ : ByteArray)]) (ok := fun _ => True) (okp := fun _ => True) ?hr ?hp (fun _ hk => hk) trivial (Below.refl _ _) (Nat.le_refl _) (by simp) ?_; (case hd => rfl); (case hg => rfl); (case hr => first | (go_simp; done) | (go_simp; rfl)); (case hp => exact (Reps.one (show Kd.M Kd.string _ _ _ (⟨#[48, 120]⟩ : ByteArray) [.string (⟨#[48, 120]⟩ : ByteArray)] from rfl) (Reps.one (show Kd.M Kd.string _ _ _ (⟨#[48, 88]⟩ : ByteArray) [.string (⟨#[48, 88]⟩ : ByteArray)] from rfl) (Reps.none _ _)))); intro v139 w16 ho17 hb hg_ hnew_; clear hg_ hnew_; (first | rw [← Ny138.out] at ho17 | (simp only [Int.reduceToNat] at ho17; rw [← Ny138.out] at ho17)); have n0_ := Aside0.mk (Kd.R_elder' (by (with_reducible repeat (first | apply Kd.R_alloc | apply Kd.R_drewN | apply Kd.R_drew)); exact HO134.out) (Kd.R_base ho17) hb); have n1_ := Aside0.mk (Kd.R_lower (Kd.R_new' ho17 (Kd.R_lt (by (with_reducible repeat (first | apply Kd.R_alloc | apply Kd.R_drewN | apply Kd.R_drew)); exact HO134.out))) (below_size (by repeat (first | (with_reducible first | exact HB.out | apply below_alloc | apply pw_below_drewN | apply below_drew1) | exact HB.out)))); have n2_ := Aside0.mk (below_step (by repeat (first | (with_reducible first | exact HB.out | apply below_alloc | apply pw_below_drewN | apply below_drew1) | exact HB.out)) hb); clear HO134; clear HB; have HO134 := n0_; have HO140 := n1_; have HB := n2_; clear n0_ n1_ n2_; clear hb ho17))
              go_meet
              case rel => exact ⟨_, (y138), H', ⟨by first | omega | exact Nat.le_refl _⟩, ⟨by (with_reducible repeat (first | apply Kd.R_alloc | apply Kd.R_drewN | apply Kd.R_drew)); exact Kd.R_mono HO140.out (fun _ hk => trivial)⟩, ⟨by repeat (first | (with_reducible first | exact HB.out | apply below_alloc | apply pw_below_drewN | apply below_drew1) | exact HB.out)⟩⟩
            · rw [if_neg c15] at H
              have c15b0 : (t129 == 16) = false := beq_eq_false_iff_ne.mpr c15
              have c15b1 : (t129 != 16) = true := bne_iff_ne.mpr c15
              by_cases c18 : t129 = 10
              · rw [if_pos c18] at H
                have c18b0 : (t129 == 10) = true := beq_iff_eq.mpr c18
                have c18b1 : (t129 != 10) = false := bne_eq_false_iff_eq.mpr c18
                clear c18
                obtain ⟨y141, hy141⟩ : ∃ y_ : List ByteArray, y_ = (([(⟨#[]⟩ : ByteArray)] : List ByteArray)) := ⟨_, rfl⟩
                replace H : (scholiastlaw02_TokenNumbers.j0 k t129 t130 y141) = some r := by first | (rw [hy141]; with_reducible exact H) | (have H2_ := (Option.bind_some _ _).symm.trans H; rw [hy141]; with_reducible exact H2_) | (have H2_ := (Option.bind_some _ _).symm.trans H; with_reducible exact H2_) | with_reducible exact H | (rw [hy141]; exact H) | exact H
                have Ny141 := Aside0.mk hy141
                clear hy141
                have H' := Aside0.mk H
                clear H
                go_wp2_with (first | ((with_reducible refine gate_dst (N := 47) rfl ?_); refine Kd.R_lit Kd.string _ 9 ?hg (N := 47) ?hd (xs := ([(⟨#[]⟩ : ByteArray)] : List ByteArray)) (inner := [.string (⟨#[]⟩ : ByteArray)]) (ok := fun _ => True) (okp := fun _ => True) ?hr ?hp (fun _ hk => hk) trivial (Below.refl _ _) (Nat.le_refl _) (by simp) ?_; (case hd => rfl); (case hg => rfl); (case hr => first | (go_simp; done) | (go_simp; rfl)); (case hp => exact (Reps.one (show Kd.M Kd.string _ _ _ (⟨#[]⟩ : ByteArray) [.string (⟨#[]⟩ : ByteArray)] from rfl) (Reps.none _ _))); intro v142 w19 ho20 hb hg_ hnew_; clear hg_ hnew_; (first | rw [← Ny141.out] at ho20 | (simp only [Int.reduceToNat] at ho20; rw [← Ny141.out] at ho20)); have n0_ := Aside0.mk (Kd.R_elder' (by (with_reducible repeat (first | apply Kd.R_alloc | apply Kd.R_drewN | apply Kd.R_drew)); exact HO134.out) (Kd.R_base ho20) hb); have n1_ := Aside0.mk (Kd.R_lower (Kd.R_new' ho20 (Kd.R_lt (by (with_reducible repeat (first | apply Kd.R_alloc | apply Kd.R_drewN | apply Kd.R_drew)); exact HO134.out))) (below_size (by repeat (first | (with_reducible first | exact HB.out | apply below_alloc | apply pw_below_drewN | apply below_drew1) | exact HB.out)))); have n2_ := Aside0.mk (below_step (by repeat (first | (with_reducible first | exact HB.out | apply below_alloc | apply pw_below_drewN | apply below_drew1) | exact HB.out)) hb); clear HO134; clear HB; have HO134 := n0_; have HO143 := n1_; have HB := n2_; clear n0_ n1_ n2_; clear hb ho20))
                go_meet
                case rel => exact ⟨_, (y141), H', ⟨by first | omega | exact Nat.le_refl _⟩, ⟨by (with_reducible repeat (first | apply Kd.R_alloc | apply Kd.R_drewN | apply Kd.R_drew)); exact Kd.R_mono HO143.out (fun _ hk => trivial)⟩, ⟨by repeat (first | (with_reducible first | exact HB.out | apply below_alloc | apply pw_below_drewN | apply below_drew1) | exact HB.out)⟩⟩
              · rw [if_neg c18] at H
                have c18b0 : (t129 == 10) = false := beq_eq_false_iff_ne.mpr c18
                have c18b1 : (t129 != 10) = true := bne_iff_ne.mpr c18
                have H' := Aside0.mk H
                clear H
                go_wp2
                go_meet
                case rel => exact ⟨_, (y132), H', ⟨by first | omega | exact Nat.le_refl _⟩, ⟨by (with_reducible repeat (first | apply Kd.R_alloc | apply Kd.R_drewN | apply Kd.R_drew)); exact HO134.out⟩, ⟨by repeat (first | (with_reducible first | exact HB.out | apply below_alloc | apply pw_below_drewN | apply below_drew1) | exact HB.out)⟩⟩
        case rest =>
          clear HC7
          try clear c1
          try clear c2
          try clear c2b0
          try clear c2b1
          try clear p2
          try clear c4
          try clear c5
          try clear c6
          try clear c10
          try clear c12
          try clear c12b0
          try clear c12b1
          try clear c15
          try clear c15b0
          try clear c15b1
          try clear c18
          try clear c18b0
          try clear c18b1
          obtain ⟨kq, x6_6, HA, HJ6, HO_6, HB⟩ := hcut
          cases kq with
          | zero => exact absurd HA.out (by simp [scholiastlaw02_TokenNumbers.j0])
          | succ kj6 =>
            have H := HA.out
            clear HA
            simp only [scholiastlaw02_TokenNumbers.j0] at H
            have H' := Aside0.mk H
            clear H
            obtain ⟨Ao21, co21, eo21⟩ := Kd.R_slice HO_6.out
            subst eo21
            go_wp2
            go_loopg [50] kj6 (fun kq v50 w' => ∃ (x50_2 : Int), v50 = .int .i64 x50_2 ∧ Aside0 (scholiastlaw02_TokenNumbers.l0 kq t129 t130 x6_6 (x6_6.length : Int) x50_2 = some r) ∧ Aside0 (kq ≤ kj6) ∧ Aside0 (Kd.R Kd.string 9 w' w.heap.size (fun _ => True) (.slice Ao21 x6_6.length co21) x6_6) ∧ Aside0 (Below w.heap.size w w'))
            case atStart => exact ⟨(0), (by first | rfl | (simp; done) | (simp [*]; done) | (simp [wrap64]; done) | (simp [isEmpty_bne]; done)), H', ⟨Nat.le_refl _⟩, ⟨by (with_reducible repeat (first | apply Kd.R_alloc | apply Kd.R_drewN | apply Kd.R_drew)); exact HO_6.out⟩, ⟨by repeat (first | (with_reducible first | exact HB.out | apply below_alloc | apply pw_below_drewN | apply below_drew1) | exact HB.out)⟩⟩
            case round =>
              clear H'
              try clear c1
              try clear c2
              try clear c2b0
              try clear c2b1
              try clear p2
              try clear c4
              try clear c5
              try clear c6
              try clear p6
              try clear c10
              try clear c12
              try clear c12b0
              try clear c12b1
              try clear c15
              try clear c15b0
              try clear c15b1
              try clear c18
              try clear c18b0
              try clear c18b1
              try clear p2
              obtain ⟨x50_2, rfl, HA, HK2, HO_48, HB⟩ := hrel
              cases gk with
              | zero => exact absurd HA.out (by simp [scholiastlaw02_TokenNumbers.l0])
              | succ k2 =>
                have H := HA.out
                clear HA
                simp only [scholiastlaw02_TokenNumbers.l0] at H
                by_cases c22 : x50_2 < (x6_6.length : Int)
                · rw [if_pos c22] at H
                  have c22b0 : decide (x50_2 < (x6_6.length : Int)) = true := decide_eq_true c22
                  clear c22
                  by_cases c23 : 0 ≤ x50_2
                  · rw [if_pos c23] at H
                    have c23b0 : decide (0 ≤ x50_2) = true := decide_eq_true c23
                    clear c23
                    by_cases c24 : x50_2 < (x6_6.length : Int)
                    · rw [if_pos c24] at H
                      have c24b0 : decide (x50_2 < (x6_6.length : Int)) = true := decide_eq_true c24
                      clear c24
                      have HC25 := Aside0.mk H
                      clear H
                      have p144 : 0 ≤ (x50_2 : Int) := of_decide_eq_true (by first | (with_reducible assumption) | assumption)
                      have q144 : x50_2 < (x6_6.length : Int) := of_decide_eq_true (by first | (with_reducible assumption) | assumption)
                      obtain ⟨ad144, e144, hx144_0⟩ := Kd.at_string (Kd.R_reads' HO_48.out).2.2 x50_2 p144 q144
                      cases e144
                      replace p144 := eq_true p144
                      replace q144 := eq_true q144
                      go_upto_if 56 with (fail)
                      go_cut [10] (fun v10 wc => ∃ (kq : Nat) (x10_24 : ByteArray), v10 = .string x10_24 ∧ Aside0 (scholiastlaw02_TokenNumbers.j2 kq t129 t130 (rdOf ByteArray.empty x6_6 x50_2) (rdOf ByteArray.empty x6_6 x50_2) x10_24 x6_6 (x6_6.length : Int) x50_2 = some r) ∧ Aside0 (kq ≤ k2) ∧ Aside0 (Kd.R Kd.string 9 wc w.heap.size (fun _ => True) (.slice (some ad144) x6_6.length co21) x6_6) ∧ Aside0 (Below w.heap.size w wc))
                      case first =>
                        have H := HC25.out
                        clear HC25
                        by_cases c26 : (rdOf ByteArray.empty x6_6 x50_2).toList = ([] : List UInt8)
                        · rw [if_pos c26] at H
                          have c26b0 : ((rdOf ByteArray.empty x6_6 x50_2).toList == ([] : List UInt8)) = true := beq_iff_eq.mpr c26
                          have c26b1 : ((rdOf ByteArray.empty x6_6 x50_2).toList != ([] : List UInt8)) = false := bne_eq_false_iff_eq.mpr c26
                          (try (have c26b2 : ((rdOf ByteArray.empty x6_6 x50_2).toList).isEmpty = true := by simpa using c26))
                          (try (have c26b3 : ¬ ((!((rdOf ByteArray.empty x6_6 x50_2).toList).isEmpty) = true) := by simpa using c26))
                          clear c26
                          (first | rw [c26b0] | (simp only [i64_w, i32_w]; rw [c26b0]) | skip)
                          have H' := Aside0.mk H
                          clear H
                          go_wp2
                          go_meet
                          case rel => exact ⟨_, ((⟨#[]⟩ : ByteArray)), (by first | rfl | (simp; done) | (simp [*]; done) | (simp [wrap64]; done) | (simp [isEmpty_bne]; done)), H', ⟨by have := HJ6.out; have := HK2.out; first | omega | exact Nat.le_refl _⟩, ⟨by (with_reducible repeat (first | apply Kd.R_alloc | apply Kd.R_drewN | apply Kd.R_drew)); exact HO_48.out⟩, ⟨by repeat (first | (with_reducible first | exact HB.out | apply below_alloc | apply pw_below_drewN | apply below_drew1) | exact HB.out)⟩⟩
                        · rw [if_neg c26] at H
                          have c26b0 : ((rdOf ByteArray.empty x6_6 x50_2).toList == ([] : List UInt8)) = false := beq_eq_false_iff_ne.mpr c26
                          have c26b1 : ((rdOf ByteArray.empty x6_6 x50_2).toList != ([] : List UInt8)) = true := bne_iff_ne.mpr c26
                          (try (have c26b2 : ((rdOf ByteArray.empty x6_6 x50_2).toList).isEmpty = false := by simpa using c26))
                          (try (have c26b3 : ¬ ((!((rdOf ByteArray.empty x6_6 x50_2).toList).isEmpty) = false) := by simpa using c26))
                          (first | rw [c26b0] | (simp only [i64_w, i32_w]; rw [c26b0]) | skip)
                          have H' := Aside0.mk H
                          clear H
                          go_wp2
                          go_meet
                          case rel => exact ⟨_, ((⟨#[95]⟩ : ByteArray)), (by first | rfl | (simp; done) | (simp [*]; done) | (simp [wrap64]; done) | (simp [isEmpty_bne]; done)), H', ⟨by have := HJ6.out; have := HK2.out; first | omega | exact Nat.le_refl _⟩, ⟨by (with_reducible repeat (first | apply Kd.R_alloc | apply Kd.R_drewN | apply Kd.R_drew)); exact HO_48.out⟩, ⟨by repeat (first | (with_reducible first | exact HB.out | apply below_alloc | apply pw_below_drewN | apply below_drew1) | exact HB.out)⟩⟩
                      case rest =>
                        clear HC25
                        try clear c1
                        try clear p1
                        try clear q1
                        try clear hx1
                        try clear c2
                        try clear c2b0
                        try clear c2b1
                        try clear p2
                        try clear c4
                        try clear c5
                        try clear c6
                        try clear p6
                        try clear c10
                        try clear c12
                        try clear c12b0
                        try clear c12b1
                        try clear p14
                        try clear q14
                        try clear hx14
                        try clear c15
                        try clear c15b0
                        try clear c15b1
                        try clear c18
                        try clear c18b0
                        try clear c18b1
                        try clear c22
                        try clear c22b0
                        try clear c23
                        try clear c23b0
                        try clear c24
                        try clear c24b0
                        try clear c26
                        try clear c26b0
                        try clear c26b1
                        try clear c26b2
                        try clear hx144_0
                        try clear p144
                        try clear p2
                        try clear p6
                        try clear q144
                        obtain ⟨kq, x10_24, rfl, HA, HJ24, HO_48, HB⟩ := hcut
                        cases kq with
                        | zero => exact absurd HA.out (by simp [scholiastlaw02_TokenNumbers.j2])
                        | succ kj24 =>
                          have H := HA.out
                          clear HA
                          simp only [scholiastlaw02_TokenNumbers.j2] at H
                          have H' := Aside0.mk H
                          clear H
                          go_wp2
                          go_loopg [9, 59] kj24 (fun kq v9 v59 w' => ∃ (x9_4 : ByteArray) (x59_4 : Int), v9 = .string x9_4 ∧ v59 = .int .i64 x59_4 ∧ Aside0 (scholiastlaw02_TokenNumbers.l1 kq t129 t130 (rdOf ByteArray.empty x6_6 x50_2) x9_4 x10_24 x6_6 (x6_6.length : Int) x50_2 (t130.size : Int) x59_4 = some r) ∧ Aside0 (kq ≤ kj24) ∧ Aside0 (Kd.R Kd.string 9 w' w.heap.size (fun _ => True) (.slice (some ad144) x6_6.length co21) x6_6) ∧ Aside0 (Below w.heap.size w w'))
                          case atStart => exact ⟨((rdOf ByteArray.empty x6_6 x50_2)), (0), (by first | rfl | (simp; done) | (simp [*]; done) | (simp [wrap64]; done) | (simp [isEmpty_bne]; done)), (by first | rfl | (simp; done) | (simp [*]; done) | (simp [wrap64]; done) | (simp [isEmpty_bne]; done)), H', ⟨Nat.le_refl _⟩, ⟨by (with_reducible repeat (first | apply Kd.R_alloc | apply Kd.R_drewN | apply Kd.R_drew)); exact HO_48.out⟩, ⟨by repeat (first | (with_reducible first | exact HB.out | apply below_alloc | apply pw_below_drewN | apply below_drew1) | exact HB.out)⟩⟩
                          case round =>
                            clear H'
                            try clear c1
                            try clear p1
                            try clear q1
                            try clear hx1
                            try clear c2
                            try clear c2b0
                            try clear c2b1
                            try clear p2
                            try clear c4
                            try clear c5
                            try clear c6
                            try clear p6
                            try clear c10
                            try clear c12
                            try clear c12b0
                            try clear c12b1
                            try clear p14
                            try clear q14
                            try clear hx14
                            try clear c15
                            try clear c15b0
                            try clear c15b1
                            try clear c18
                            try clear c18b0
                            try clear c18b1
                            try clear c22
                            try clear c22b0
                            try clear c23
                            try clear c23b0
                            try clear c24
                            try clear c24b0
                            try clear c26
                            try clear c26b0
                            try clear c26b1
                            try clear c26b2
                            try clear hx144_0
                            try clear p1
                            try clear p14
                            try clear p144
                            try clear p2
                            try clear p6
                            try clear q1
                            try clear q14
                            try clear q144
                            obtain ⟨x9_4, x59_4, rfl, rfl, HA, HK4, HO_48, HB⟩ := hrel
                            cases gk with
                            | zero => exact absurd HA.out (by simp [scholiastlaw02_TokenNumbers.l1])
                            | succ k4 =>
                              have H := HA.out
                              clear HA
                              simp only [scholiastlaw02_TokenNumbers.l1] at H
                              by_cases c27 : x59_4 < (t130.size : Int)
                              · rw [if_pos c27] at H
                                have c27b0 : decide (x59_4 < (t130.size : Int)) = true := decide_eq_true c27
                                clear c27
                                by_cases c28 : x59_4 > 0
                                · rw [if_pos c28] at H
                                  have c28b0 : decide (0 < x59_4) = true := decide_eq_true c28
                                  clear c28
                                  by_cases c29 : x9_4.size + 1 ≤ 9223372036854775807
                                  · rw [if_pos c29] at H
                                    have c29b0 := eq_true c29
                                    have c29b1 : decide (x9_4.size + 1 ≤ 9223372036854775807) = true := decide_eq_true c29
                                    try have c29b2 : (9223372036854775807 < x9_4.size + 1) = False := eq_false (Nat.not_lt.2 c29)
                                    by_cases c30 : 0 ≤ x59_4
                                    · rw [if_pos c30] at H
                                      have c30b0 := eq_true c30
                                      have c30b1 : decide (0 ≤ x59_4) = true := decide_eq_true c30
                                      clear c30
                                      by_cases c31 : x59_4 ≤ (wrap64 (x59_4 + 1))
                                      · rw [if_pos c31] at H
                                        have c31b0 := eq_true c31
                                        have c31b1 : decide (x59_4 ≤ (wrap64 (x59_4 + 1))) = true := decide_eq_true c31
                                        by_cases c32 : (wrap64 (x59_4 + 1)) ≤ (t130.size : Int)
                                        · rw [if_pos c32] at H
                                          have c32b0 := eq_true c32
                                          have c32b1 : decide ((wrap64 (x59_4 + 1)) ≤ (t130.size : Int)) = true := decide_eq_true c32
                                          by_cases c33 : (x9_4 ++ (⟨#[95]⟩ : ByteArray)).size + (t130.extract (x59_4 : Int).toNat ((wrap64 (x59_4 + 1)) : Int).toNat).size ≤ 9223372036854775807
                                          · rw [if_pos c33] at H
                                            have c33b0 := eq_true c33
                                            have c33b1 : decide ((x9_4 ++ (⟨#[95]⟩ : ByteArray)).size + (t130.extract (x59_4 : Int).toNat ((wrap64 (x59_4 + 1)) : Int).toNat).size ≤ 9223372036854775807) = true := decide_eq_true c33
                                            try have c33b2 : (9223372036854775807 < (x9_4 ++ (⟨#[95]⟩ : ByteArray)).size + (t130.extract (x59_4 : Int).toNat ((wrap64 (x59_4 + 1)) : Int).toNat).size) = False := eq_false (Nat.not_lt.2 c33)
                                            (try (have c33b5 : (x9_4.size + 1) + (t130.extract (x59_4 : Int).toNat ((wrap64 (x59_4 + 1)) : Int).toNat).size ≤ 9223372036854775807 := by have h_ := c33; simp only [ByteArray.size_append] at h_; exact h_))
                                            (try (have c33b4 := c33; simp only [ByteArray.size_append, Int.natCast_add] at c33b4; replace c33b4 := eq_true c33b4))
                                            have H' := Aside0.mk H
                                            clear H
                                            go_wp2
                                            go_roundg k4
                                            case measure => have := HJ6.out; have := HK2.out; have := HJ24.out; have := HK4.out; omega
                                            case rel => exact ⟨((x9_4 ++ (⟨#[95]⟩ : ByteArray)) ++ (t130.extract (x59_4 : Int).toNat ((wrap64 (x59_4 + 1)) : Int).toNat)), (wrap64 (x59_4 + 1)), (by first | rfl | (simp; done) | (simp [*]; done) | (simp [wrap64]; done) | (simp [isEmpty_bne]; done)), (by first | rfl | (simp; done) | (simp [*]; done) | (simp [wrap64]; done) | (simp [isEmpty_bne]; done)), H', ⟨by have := HJ6.out; have := HK2.out; have := HJ24.out; have := HK4.out; omega⟩, ⟨by (with_reducible repeat (first | apply Kd.R_alloc | apply Kd.R_drewN | apply Kd.R_drew)); exact HO_48.out⟩, ⟨by repeat (first | (with_reducible first | exact HB.out | apply below_alloc | apply pw_below_drewN | apply below_drew1) | exact HB.out)⟩⟩
                                          · rw [if_neg c33] at H
                                            exact absurd H (by simp)
                                        · rw [if_neg c32] at H
                                          exact absurd H (by simp)
                                      · rw [if_neg c31] at H
                                        exact absurd H (by simp)
                                    · rw [if_neg c30] at H
                                      exact absurd H (by simp)
                                  · rw [if_neg c29] at H
                                    exact absurd H (by simp)
                                · rw [if_neg c28] at H
                                  have c28b0 : decide (0 < x59_4) = false := decide_eq_false c28
                                  clear c28
                                  by_cases c34 : x10_24.toList = ([] : List UInt8)
                                  · rw [if_pos c34] at H
                                    have c34b0 : (x10_24.toList == ([] : List UInt8)) = true := beq_iff_eq.mpr c34
                                    have c34b1 : (x10_24.toList != ([] : List UInt8)) = false := bne_eq_false_iff_eq.mpr c34
                                    (try (have c34b2 : x10_24.toList.isEmpty = true := by simpa using c34))
                                    (try (have c34b3 : ¬ ((!x10_24.toList.isEmpty) = true) := by simpa using c34))
                                    clear c34
                                    by_cases c35 : 0 ≤ x59_4
                                    · rw [if_pos c35] at H
                                      have c35b0 := eq_true c35
                                      have c35b1 : decide (0 ≤ x59_4) = true := decide_eq_true c35
                                      clear c35
                                      by_cases c36 : x59_4 ≤ (wrap64 (x59_4 + 1))
                                      · rw [if_pos c36] at H
                                        have c36b0 := eq_true c36
                                        have c36b1 : decide (x59_4 ≤ (wrap64 (x59_4 + 1))) = true := decide_eq_true c36
                                        by_cases c37 : (wrap64 (x59_4 + 1)) ≤ (t130.size : Int)
                                        · rw [if_pos c37] at H
                                          have c37b0 := eq_true c37
                                          have c37b1 : decide ((wrap64 (x59_4 + 1)) ≤ (t130.size : Int)) = true := decide_eq_true c37
                                          by_cases c38 : x9_4.size + (t130.extract (x59_4 : Int).toNat ((wrap64 (x59_4 + 1)) : Int).toNat).size ≤ 9223372036854775807
                                          · rw [if_pos c38] at H
                                            have c38b0 := eq_true c38
                                            have c38b1 : decide (x9_4.size + (t130.extract (x59_4 : Int).toNat ((wrap64 (x59_4 + 1)) : Int).toNat).size ≤ 9223372036854775807) = true := decide_eq_true c38
                                            try have c38b2 : (9223372036854775807 < x9_4.size + (t130.extract (x59_4 : Int).toNat ((wrap64 (x59_4 + 1)) : Int).toNat).size) = False := eq_false (Nat.not_lt.2 c38)
                                            have H' := Aside0.mk H
                                            clear H
                                            go_wp2
                                            go_roundg k4
                                            case measure => have := HJ6.out; have := HK2.out; have := HJ24.out; have := HK4.out; omega
                                            case rel => exact ⟨(x9_4 ++ (t130.extract (x59_4 : Int).toNat ((wrap64 (x59_4 + 1)) : Int).toNat)), (wrap64 (x59_4 + 1)), (by first | rfl | (simp; done) | (simp [*]; done) | (simp [wrap64]; done) | (simp [isEmpty_bne]; done)), (by first | rfl | (simp; done) | (simp [*]; done) | (simp [wrap64]; done) | (simp [isEmpty_bne]; done)), H', ⟨by have := HJ6.out; have := HK2.out; have := HJ24.out; have := HK4.out; omega⟩, ⟨by (with_reducible repeat (first | apply Kd.R_alloc | apply Kd.R_drewN | apply Kd.R_drew)); exact HO_48.out⟩, ⟨by repeat (first | (with_reducible first | exact HB.out | apply below_alloc | apply pw_below_drewN | apply below_drew1) | exact HB.out)⟩⟩
                                          · rw [if_neg c38] at H
                                            exact absurd H (by simp)
                                        · rw [if_neg c37] at H
                                          exact absurd H (by simp)
                                      · rw [if_neg c36] at H
                                        exact absurd H (by simp)
                                    · rw [if_neg c35] at H
                                      exact absurd H (by simp)
                                  · rw [if_neg c34] at H
                                    have c34b0 : (x10_24.toList == ([] : List UInt8)) = false := beq_eq_false_iff_ne.mpr c34
                                    have c34b1 : (x10_24.toList != ([] : List UInt8)) = true := bne_iff_ne.mpr c34
                                    (try (have c34b2 : x10_24.toList.isEmpty = false := by simpa using c34))
                                    (try (have c34b3 : ¬ ((!x10_24.toList.isEmpty) = false) := by simpa using c34))
                                    by_cases c39 : x9_4.size + 1 ≤ 9223372036854775807
                                    · rw [if_pos c39] at H
                                      have c39b0 := eq_true c39
                                      have c39b1 : decide (x9_4.size + 1 ≤ 9223372036854775807) = true := decide_eq_true c39
                                      try have c39b2 : (9223372036854775807 < x9_4.size + 1) = False := eq_false (Nat.not_lt.2 c39)
                                      by_cases c40 : 0 ≤ x59_4
                                      · rw [if_pos c40] at H
                                        have c40b0 := eq_true c40
                                        have c40b1 : decide (0 ≤ x59_4) = true := decide_eq_true c40
                                        clear c40
                                        by_cases c41 : x59_4 ≤ (wrap64 (x59_4 + 1))
                                        · rw [if_pos c41] at H
                                          have c41b0 := eq_true c41
                                          have c41b1 : decide (x59_4 ≤ (wrap64 (x59_4 + 1))) = true := decide_eq_true c41
                                          by_cases c42 : (wrap64 (x59_4 + 1)) ≤ (t130.size : Int)
                                          · rw [if_pos c42] at H
                                            have c42b0 := eq_true c42
                                            have c42b1 : decide ((wrap64 (x59_4 + 1)) ≤ (t130.size : Int)) = true := decide_eq_true c42
                                            by_cases c43 : (x9_4 ++ (⟨#[95]⟩ : ByteArray)).size + (t130.extract (x59_4 : Int).toNat ((wrap64 (x59_4 + 1)) : Int).toNat).size ≤ 9223372036854775807
                                            · rw [if_pos c43] at H
                                              have c43b0 := eq_true c43
                                              have c43b1 : decide ((x9_4 ++ (⟨#[95]⟩ : ByteArray)).size + (t130.extract (x59_4 : Int).toNat ((wrap64 (x59_4 + 1)) : Int).toNat).size ≤ 9223372036854775807) = true := decide_eq_true c43
                                              try have c43b2 : (9223372036854775807 < (x9_4 ++ (⟨#[95]⟩ : ByteArray)).size + (t130.extract (x59_4 : Int).toNat ((wrap64 (x59_4 + 1)) : Int).toNat).size) = False := eq_false (Nat.not_lt.2 c43)
                                              (try (have c43b5 : (x9_4.size + 1) + (t130.extract (x59_4 : Int).toNat ((wrap64 (x59_4 + 1)) : Int).toNat).size ≤ 9223372036854775807 := by have h_ := c43; simp only [ByteArray.size_append] at h_; exact h_))
                                              (try (have c43b4 := c43; simp only [ByteArray.size_append, Int.natCast_add] at c43b4; replace c43b4 := eq_true c43b4))
                                              have H' := Aside0.mk H
                                              clear H
                                              go_wp2
                                              go_roundg k4
                                              case measure => have := HJ6.out; have := HK2.out; have := HJ24.out; have := HK4.out; omega
                                              case rel => exact ⟨((x9_4 ++ (⟨#[95]⟩ : ByteArray)) ++ (t130.extract (x59_4 : Int).toNat ((wrap64 (x59_4 + 1)) : Int).toNat)), (wrap64 (x59_4 + 1)), (by first | rfl | (simp; done) | (simp [*]; done) | (simp [wrap64]; done) | (simp [isEmpty_bne]; done)), (by first | rfl | (simp; done) | (simp [*]; done) | (simp [wrap64]; done) | (simp [isEmpty_bne]; done)), H', ⟨by have := HJ6.out; have := HK2.out; have := HJ24.out; have := HK4.out; omega⟩, ⟨by (with_reducible repeat (first | apply Kd.R_alloc | apply Kd.R_drewN | apply Kd.R_drew)); exact HO_48.out⟩, ⟨by repeat (first | (with_reducible first | exact HB.out | apply below_alloc | apply pw_below_drewN | apply below_drew1) | exact HB.out)⟩⟩
                                            · rw [if_neg c43] at H
                                              exact absurd H (by simp)
                                          · rw [if_neg c42] at H
                                            exact absurd H (by simp)
                                        · rw [if_neg c41] at H
                                          exact absurd H (by simp)
                                      · rw [if_neg c40] at H
                                        exact absurd H (by simp)
                                    · rw [if_neg c39] at H
                                      exact absurd H (by simp)
                              · rw [if_neg c27] at H
                                have c27b0 : decide (x59_4 < (t130.size : Int)) = false := decide_eq_false c27
                                clear c27
                                replace H := Option.bind_eq_some_iff.mp H
                                obtain ⟨⟨t145, t146, t147⟩, A440, H⟩ := H
                                replace H : (if (rdOf ByteArray.empty x6_6 x50_2).size + t130.size ≤ 9223372036854775807 then ((token_Digits.f k4 ((rdOf ByteArray.empty x6_6 x50_2) ++ t130)).bind fun bt148 => (if t145 = t129 then (if t146.toList = t130.toList then (if t147 = true then (if bt148.1 = t129 then (if bt148.2.1.toList = t130.toList then (scholiastlaw02_TokenNumbers.j4 k4 t129 t130 x9_4 x6_6 (x6_6.length : Int) x50_2 (!bt148.2.2)) else (scholiastlaw02_TokenNumbers.j4 k4 t129 t130 x9_4 x6_6 (x6_6.length : Int) x50_2 true)) else (scholiastlaw02_TokenNumbers.j4 k4 t129 t130 x9_4 x6_6 (x6_6.length : Int) x50_2 true)) else (scholiastlaw02_TokenNumbers.j4 k4 t129 t130 x9_4 x6_6 (x6_6.length : Int) x50_2 true)) else (scholiastlaw02_TokenNumbers.j4 k4 t129 t130 x9_4 x6_6 (x6_6.length : Int) x50_2 true)) else (scholiastlaw02_TokenNumbers.j4 k4 t129 t130 x9_4 x6_6 (x6_6.length : Int) x50_2 true))) else (none)) = some r := H
                                have A44 := Aside0.mk A440
                                clear A440
                                by_cases c45 : (rdOf ByteArray.empty x6_6 x50_2).size + t130.size ≤ 9223372036854775807
                                · rw [if_pos c45] at H
                                  have c45b0 := eq_true c45
                                  have c45b1 : decide ((rdOf ByteArray.empty x6_6 x50_2).size + t130.size ≤ 9223372036854775807) = true := decide_eq_true c45
                                  try have c45b2 : (9223372036854775807 < (rdOf ByteArray.empty x6_6 x50_2).size + t130.size) = False := eq_false (Nat.not_lt.2 c45)
                                  replace H := Option.bind_eq_some_iff.mp H
                                  obtain ⟨⟨t148, t149, t150⟩, A460, H⟩ := H
                                  replace H : (if t145 = t129 then (if t146.toList = t130.toList then (if t147 = true then (if t148 = t129 then (if t149.toList = t130.toList then (scholiastlaw02_TokenNumbers.j4 k4 t129 t130 x9_4 x6_6 (x6_6.length : Int) x50_2 (!t150)) else (scholiastlaw02_TokenNumbers.j4 k4 t129 t130 x9_4 x6_6 (x6_6.length : Int) x50_2 true)) else (scholiastlaw02_TokenNumbers.j4 k4 t129 t130 x9_4 x6_6 (x6_6.length : Int) x50_2 true)) else (scholiastlaw02_TokenNumbers.j4 k4 t129 t130 x9_4 x6_6 (x6_6.length : Int) x50_2 true)) else (scholiastlaw02_TokenNumbers.j4 k4 t129 t130 x9_4 x6_6 (x6_6.length : Int) x50_2 true)) else (scholiastlaw02_TokenNumbers.j4 k4 t129 t130 x9_4 x6_6 (x6_6.length : Int) x50_2 true)) = some r := H
                                  have A46 := Aside0.mk A460
                                  clear A460
                                  have HC47 := Aside0.mk H
                                  clear H
                                  go_upto_region 31 with (first | ((with_reducible refine gate_callee (f := 15) rfl ?_); refine goesL_ (some 80) rfl rfl Tryd.func15 (by kernel_rfl) rfl #[.string x9_4] rfl (by (try simp only [List.map_toArray, List.map_cons, List.map_nil]); first | done | rfl | (simp only [List.length_drop, List.length_take]; rfl) | (rw [extract_all]; rfl)) ?_; (with_reducible refine (token_Digits.calls k4 x9_4 t145 t146 t147 _ ?side1 A44.out).mono ?_); (case side1 => exact Tabs.below HT (by repeat (first | (with_reducible first | exact HB.out | apply below_alloc | apply pw_below_drewN | apply below_drew1) | exact HB.out))); rintro e w48 ⟨rfl, hb⟩; refine ⟨_, rfl, ?_⟩; have n0_ := Aside0.mk (Kd.R_below (by (with_reducible repeat (first | apply Kd.R_alloc | apply Kd.R_drewN | apply Kd.R_drew)); exact HO_48.out) hb); have n1_ := Aside0.mk (below_step (by repeat (first | (with_reducible first | exact HB.out | apply below_alloc | apply pw_below_drewN | apply below_drew1) | exact HB.out)) hb); clear HO_48; clear HB; have HO_48 := n0_; have HB := n1_; clear n0_ n1_; (try clear hb); (try clear hb2); (try clear hk); (try clear hi)) | ((with_reducible refine gate_callee (f := 15) rfl ?_); refine goesL_ (some 88) rfl rfl Tryd.func15 (by kernel_rfl) rfl #[.string ((rdOf ByteArray.empty x6_6 x50_2) ++ t130)] rfl (by (try simp only [List.map_toArray, List.map_cons, List.map_nil]); first | done | rfl | (simp only [List.length_drop, List.length_take]; rfl) | (rw [extract_all]; rfl)) ?_; (with_reducible refine (token_Digits.calls k4 ((rdOf ByteArray.empty x6_6 x50_2) ++ t130) t148 t149 t150 _ ?side1 A46.out).mono ?_); (case side1 => exact Tabs.below HT (by repeat (first | (with_reducible first | exact HB.out | apply below_alloc | apply pw_below_drewN | apply below_drew1) | exact HB.out))); rintro e w49 ⟨rfl, hb⟩; refine ⟨_, rfl, ?_⟩; have n0_ := Aside0.mk (Kd.R_below (by (with_reducible repeat (first | apply Kd.R_alloc | apply Kd.R_drewN | apply Kd.R_drew)); exact HO_48.out) hb); have n1_ := Aside0.mk (below_step (by repeat (first | (with_reducible first | exact HB.out | apply below_alloc | apply pw_below_drewN | apply below_drew1) | exact HB.out)) hb); clear HO_48; clear HB; have HO_48 := n0_; have HB := n1_; clear n0_ n1_; (try clear hb); (try clear hb2); (try clear hk); (try clear hi)))
                                  (try simp only [Act.put, List.setIfInBounds_toArray, List.set_cons_zero, List.set_cons_succ])
                                  go_cut [117] (fun v117 wc => ∃ (kq : Nat) (x117_46 : Bool), v117 = .bool x117_46 ∧ Aside0 (scholiastlaw02_TokenNumbers.j4 kq t129 t130 x9_4 x6_6 (x6_6.length : Int) x50_2 x117_46 = some r) ∧ Aside0 (kq ≤ k4) ∧ Aside0 (Kd.R Kd.string 9 wc w.heap.size (fun _ => True) (.slice (some ad144) x6_6.length co21) x6_6) ∧ Aside0 (Below w.heap.size w wc))
                                  case first =>
                                    have H := HC47.out
                                    clear HC47
                                    by_cases c50 : t145 = t129
                                    · rw [if_pos c50] at H
                                      have c50b0 : (t145 == t129) = true := beq_iff_eq.mpr c50
                                      have c50b1 : (t145 != t129) = false := bne_eq_false_iff_eq.mpr c50
                                      clear c50
                                      (first | rw [c50b0] | (simp only [i64_w, i32_w]; rw [c50b0]) | skip)
                                      by_cases c51 : t146.toList = t130.toList
                                      · rw [if_pos c51] at H
                                        have c51b0 : (t146.toList == t130.toList) = true := beq_iff_eq.mpr c51
                                        have c51b1 : (t146.toList != t130.toList) = false := bne_eq_false_iff_eq.mpr c51
                                        clear c51
                                        by_cases c52 : t147 = true
                                        · subst c52
                                          have H1 : (if t148 = t129 then (if t149.toList = t130.toList then (scholiastlaw02_TokenNumbers.j4 k4 t129 t130 x9_4 x6_6 (x6_6.length : Int) x50_2 (!t150)) else (scholiastlaw02_TokenNumbers.j4 k4 t129 t130 x9_4 x6_6 (x6_6.length : Int) x50_2 true)) else (scholiastlaw02_TokenNumbers.j4 k4 t129 t130 x9_4 x6_6 (x6_6.length : Int) x50_2 true)) = some r := by rw [if_pos rfl] at H; exact H
                                          clear H
                                          have H := H1
                                          clear H1
                                          by_cases c53 : t148 = t129
                                          · rw [if_pos c53] at H
                                            have c53b0 : (t148 == t129) = true := beq_iff_eq.mpr c53
                                            have c53b1 : (t148 != t129) = false := bne_eq_false_iff_eq.mpr c53
                                            clear c53
                                            by_cases c54 : t149.toList = t130.toList
                                            · rw [if_pos c54] at H
                                              have c54b0 : (t149.toList == t130.toList) = true := beq_iff_eq.mpr c54
                                              have c54b1 : (t149.toList != t130.toList) = false := bne_eq_false_iff_eq.mpr c54
                                              clear c54
                                              have H' := Aside0.mk H
                                              clear H
                                              go_wp2
                                              go_meet
                                              case rel => exact ⟨_, (!t150), (by first | rfl | (simp; done) | (simp [*]; done) | (simp [wrap64]; done) | (simp [isEmpty_bne]; done)), H', ⟨by have := HJ6.out; have := HK2.out; have := HJ24.out; have := HK4.out; first | omega | exact Nat.le_refl _⟩, ⟨by (with_reducible repeat (first | apply Kd.R_alloc | apply Kd.R_drewN | apply Kd.R_drew)); exact HO_48.out⟩, ⟨by repeat (first | (with_reducible first | exact HB.out | apply below_alloc | apply pw_below_drewN | apply below_drew1) | exact HB.out)⟩⟩
                                            · rw [if_neg c54] at H
                                              have c54b0 : (t149.toList == t130.toList) = false := beq_eq_false_iff_ne.mpr c54
                                              have c54b1 : (t149.toList != t130.toList) = true := bne_iff_ne.mpr c54
                                              have H' := Aside0.mk H
                                              clear H
                                              go_wp2
                                              go_meet
                                              case rel => exact ⟨_, (true), (by first | rfl | (simp; done) | (simp [*]; done) | (simp [wrap64]; done) | (simp [isEmpty_bne]; done)), H', ⟨by have := HJ6.out; have := HK2.out; have := HJ24.out; have := HK4.out; first | omega | exact Nat.le_refl _⟩, ⟨by (with_reducible repeat (first | apply Kd.R_alloc | apply Kd.R_drewN | apply Kd.R_drew)); exact HO_48.out⟩, ⟨by repeat (first | (with_reducible first | exact HB.out | apply below_alloc | apply pw_below_drewN | apply below_drew1) | exact HB.out)⟩⟩
                                          · rw [if_neg c53] at H
                                            have c53b0 : (t148 == t129) = false := beq_eq_false_iff_ne.mpr c53
                                            have c53b1 : (t148 != t129) = true := bne_iff_ne.mpr c53
                                            have H' := Aside0.mk H
                                            clear H
                                            go_wp2
                                            go_meet
                                            case rel => exact ⟨_, (true), (by first | rfl | (simp; done) | (simp [*]; done) | (simp [wrap64]; done) | (simp [isEmpty_bne]; done)), H', ⟨by have := HJ6.out; have := HK2.out; have := HJ24.out; have := HK4.out; first | omega | exact Nat.le_refl _⟩, ⟨by (with_reducible repeat (first | apply Kd.R_alloc | apply Kd.R_drewN | apply Kd.R_drew)); exact HO_48.out⟩, ⟨by repeat (first | (with_reducible first | exact HB.out | apply below_alloc | apply pw_below_drewN | apply below_drew1) | exact HB.out)⟩⟩
                                        · replace c52 := Bool.eq_false_iff.mpr c52
                                          subst c52
                                          have H1 : (scholiastlaw02_TokenNumbers.j4 k4 t129 t130 x9_4 x6_6 (x6_6.length : Int) x50_2 true) = some r := by rw [if_neg (show ¬ (false = true) by decide)] at H; exact H
                                          clear H
                                          have H := H1
                                          clear H1
                                          have H' := Aside0.mk H
                                          clear H
                                          go_wp2
                                          go_meet
                                          case rel => exact ⟨_, (true), (by first | rfl | (simp; done) | (simp [*]; done) | (simp [wrap64]; done) | (simp [isEmpty_bne]; done)), H', ⟨by have := HJ6.out; have := HK2.out; have := HJ24.out; have := HK4.out; first | omega | exact Nat.le_refl _⟩, ⟨by (with_reducible repeat (first | apply Kd.R_alloc | apply Kd.R_drewN | apply Kd.R_drew)); exact HO_48.out⟩, ⟨by repeat (first | (with_reducible first | exact HB.out | apply below_alloc | apply pw_below_drewN | apply below_drew1) | exact HB.out)⟩⟩
                                      · rw [if_neg c51] at H
                                        have c51b0 : (t146.toList == t130.toList) = false := beq_eq_false_iff_ne.mpr c51
                                        have c51b1 : (t146.toList != t130.toList) = true := bne_iff_ne.mpr c51
                                        have H' := Aside0.mk H
                                        clear H
                                        go_wp2
                                        go_meet
                                        case rel => exact ⟨_, (true), (by first | rfl | (simp; done) | (simp [*]; done) | (simp [wrap64]; done) | (simp [isEmpty_bne]; done)), H', ⟨by have := HJ6.out; have := HK2.out; have := HJ24.out; have := HK4.out; first | omega | exact Nat.le_refl _⟩, ⟨by (with_reducible repeat (first | apply Kd.R_alloc | apply Kd.R_drewN | apply Kd.R_drew)); exact HO_48.out⟩, ⟨by repeat (first | (with_reducible first | exact HB.out | apply below_alloc | apply pw_below_drewN | apply below_drew1) | exact HB.out)⟩⟩
                                    · rw [if_neg c50] at H
                                      have c50b0 : (t145 == t129) = false := beq_eq_false_iff_ne.mpr c50
                                      have c50b1 : (t145 != t129) = true := bne_iff_ne.mpr c50
                                      (first | rw [c50b0] | (simp only [i64_w, i32_w]; rw [c50b0]) | skip)
                                      have H' := Aside0.mk H
                                      clear H
                                      go_wp2
                                      go_meet
                                      case rel => exact ⟨_, (true), (by first | rfl | (simp; done) | (simp [*]; done) | (simp [wrap64]; done) | (simp [isEmpty_bne]; done)), H', ⟨by have := HJ6.out; have := HK2.out; have := HJ24.out; have := HK4.out; first | omega | exact Nat.le_refl _⟩, ⟨by (with_reducible repeat (first | apply Kd.R_alloc | apply Kd.R_drewN | apply Kd.R_drew)); exact HO_48.out⟩, ⟨by repeat (first | (with_reducible first | exact HB.out | apply below_alloc | apply pw_below_drewN | apply below_drew1) | exact HB.out)⟩⟩
                                  case rest =>
                                    clear HC47
                                    try clear c1
                                    try clear p1
                                    try clear q1
                                    try clear hx1
                                    try clear c2
                                    try clear c2b0
                                    try clear c2b1
                                    try clear p2
                                    try clear c3
                                    try clear c4
                                    try clear c5
                                    try clear c6
                                    try clear p6
                                    try clear c10
                                    try clear c12
                                    try clear c12b0
                                    try clear c12b1
                                    try clear p14
                                    try clear q14
                                    try clear hx14
                                    try clear c15
                                    try clear c15b0
                                    try clear c15b1
                                    try clear c18
                                    try clear c18b0
                                    try clear c18b1
                                    try clear c22
                                    try clear c22b0
                                    try clear c23
                                    try clear c23b0
                                    try clear c24
                                    try clear c24b0
                                    try clear c26
                                    try clear c26b0
                                    try clear c26b1
                                    try clear c26b2
                                    try clear c27
                                    try clear c27b0
                                    try clear c28
                                    try clear c28b0
                                    try clear c29
                                    try clear c29b0
                                    try clear c29b1
                                    try clear c29b2
                                    try clear c30
                                    try clear c30b0
                                    try clear c30b1
                                    try clear c31
                                    try clear c31b0
                                    try clear c31b1
                                    try clear c32
                                    try clear c32b0
                                    try clear c32b1
                                    try clear c33
                                    try clear c33b0
                                    try clear c33b1
                                    try clear c33b2
                                    try clear c34
                                    try clear c34b0
                                    try clear c34b1
                                    try clear c34b2
                                    try clear c35
                                    try clear c35b0
                                    try clear c35b1
                                    try clear c36
                                    try clear c36b0
                                    try clear c36b1
                                    try clear c37
                                    try clear c37b0
                                    try clear c37b1
                                    try clear c38
                                    try clear c38b0
                                    try clear c38b1
                                    try clear c38b2
                                    try clear c39
                                    try clear c39b0
                                    try clear c39b1
                                    try clear c39b2
                                    try clear c40
                                    try clear c40b0
                                    try clear c40b1
                                    try clear c41
                                    try clear c41b0
                                    try clear c41b1
                                    try clear c42
                                    try clear c42b0
                                    try clear c42b1
                                    try clear c43
                                    try clear c43b0
                                    try clear c43b1
                                    try clear c43b2
                                    try clear c45
                                    try clear c45b0
                                    try clear c45b1
                                    try clear c45b2
                                    try clear c50
                                    try clear c50b0
                                    try clear c50b1
                                    try clear c51
                                    try clear c51b0
                                    try clear c51b1
                                    try clear c52
                                    try clear c53
                                    try clear c53b0
                                    try clear c53b1
                                    try clear c54
                                    try clear c54b0
                                    try clear c54b1
                                    try clear hx144_0
                                    try clear p1
                                    try clear p14
                                    try clear p144
                                    try clear p2
                                    try clear p6
                                    try clear q1
                                    try clear q14
                                    try clear q144
                                    obtain ⟨kq, x117_46, rfl, HA, HJ46, HO_48, HB⟩ := hcut
                                    cases kq with
                                    | zero => exact absurd HA.out (by simp [scholiastlaw02_TokenNumbers.j4])
                                    | succ kj46 =>
                                      have H := HA.out
                                      clear HA
                                      simp only [scholiastlaw02_TokenNumbers.j4] at H
                                      by_cases c55 : x117_46 = true
                                      · subst c55
                                        have H1 : (some false) = some r := by rw [if_pos rfl] at H; exact H
                                        clear H
                                        have H := H1
                                        clear H1
                                        obtain rfl := Option.some.inj H
                                        go_wp2
                                        go_ret
                                        exact ⟨by first | rfl | (simp [errW_none, errW_some] <;> rfl) | (simp [*, errW_none, errW_some] <;> rfl), by repeat (first | (with_reducible first | exact HB.out | apply below_alloc | apply pw_below_drewN | apply below_drew1) | exact HB.out)⟩
                                      · replace c55 := Bool.eq_false_iff.mpr c55
                                        subst c55
                                        have H1 : (if x9_4.size + 1 ≤ 9223372036854775807 then ((token_Digits.f kj46 (x9_4 ++ (⟨#[95]⟩ : ByteArray))).bind fun bt151 => ((token_Digits.f kj46 (x9_4 ++ (⟨#[103]⟩ : ByteArray))).bind fun bt154 => (if bt151.2.2 = true then (some false) else (if bt154.2.2 = true then (some false) else (scholiastlaw02_TokenNumbers.l0 kj46 t129 t130 x6_6 (x6_6.length : Int) (wrap64 (x50_2 + 1))))))) else (none)) = some r := by rw [if_neg (show ¬ (false = true) by decide)] at H; exact H
                                        clear H
                                        have H := H1
                                        clear H1
                                        by_cases c56 : x9_4.size + 1 ≤ 9223372036854775807
                                        · rw [if_pos c56] at H
                                          have c56b0 := eq_true c56
                                          have c56b1 : decide (x9_4.size + 1 ≤ 9223372036854775807) = true := decide_eq_true c56
                                          try have c56b2 : (9223372036854775807 < x9_4.size + 1) = False := eq_false (Nat.not_lt.2 c56)
                                          replace H := Option.bind_eq_some_iff.mp H
                                          obtain ⟨⟨t151, t152, t153⟩, A570, H⟩ := H
                                          replace H : ((token_Digits.f kj46 (x9_4 ++ (⟨#[103]⟩ : ByteArray))).bind fun bt154 => (if t153 = true then (some false) else (if bt154.2.2 = true then (some false) else (scholiastlaw02_TokenNumbers.l0 kj46 t129 t130 x6_6 (x6_6.length : Int) (wrap64 (x50_2 + 1)))))) = some r := H
                                          have A57 := Aside0.mk A570
                                          clear A570
                                          replace H := Option.bind_eq_some_iff.mp H
                                          obtain ⟨⟨t154, t155, t156⟩, A580, H⟩ := H
                                          replace H : (if t153 = true then (some false) else (if t156 = true then (some false) else (scholiastlaw02_TokenNumbers.l0 kj46 t129 t130 x6_6 (x6_6.length : Int) (wrap64 (x50_2 + 1))))) = some r := H
                                          have A58 := Aside0.mk A580
                                          clear A580
                                          by_cases c59 : t153 = true
                                          · subst c59
                                            have H1 : (some false) = some r := by rw [if_pos rfl] at H; exact H
                                            clear H
                                            have H := H1
                                            clear H1
                                            obtain rfl := Option.some.inj H
                                            go_wp2_with (first | ((with_reducible refine gate_callee (f := 15) rfl ?_); refine goesL_ (some 121) rfl rfl Tryd.func15 (by kernel_rfl) rfl #[.string (x9_4 ++ (⟨#[95]⟩ : ByteArray))] rfl (by (try simp only [List.map_toArray, List.map_cons, List.map_nil]); first | done | rfl | (simp only [List.length_drop, List.length_take]; rfl) | (rw [extract_all]; rfl)) ?_; (with_reducible refine (token_Digits.calls kj46 (x9_4 ++ (⟨#[95]⟩ : ByteArray)) t151 t152 true _ ?side1 A57.out).mono ?_); (case side1 => exact Tabs.below HT (by repeat (first | (with_reducible first | exact HB.out | apply below_alloc | apply pw_below_drewN | apply below_drew1) | exact HB.out))); rintro e w60 ⟨rfl, hb⟩; refine ⟨_, rfl, ?_⟩; have n0_ := Aside0.mk (Kd.R_below (by (with_reducible repeat (first | apply Kd.R_alloc | apply Kd.R_drewN | apply Kd.R_drew)); exact HO_48.out) hb); have n1_ := Aside0.mk (below_step (by repeat (first | (with_reducible first | exact HB.out | apply below_alloc | apply pw_below_drewN | apply below_drew1) | exact HB.out)) hb); clear HO_48; clear HB; have HO_48 := n0_; have HB := n1_; clear n0_ n1_; (try clear hb); (try clear hb2); (try clear hk); (try clear hi)) | ((with_reducible refine gate_callee (f := 15) rfl ?_); refine goesL_ (some 128) rfl rfl Tryd.func15 (by kernel_rfl) rfl #[.string (x9_4 ++ (⟨#[103]⟩ : ByteArray))] rfl (by (try simp only [List.map_toArray, List.map_cons, List.map_nil]); first | done | rfl | (simp only [List.length_drop, List.length_take]; rfl) | (rw [extract_all]; rfl)) ?_; (with_reducible refine (token_Digits.calls kj46 (x9_4 ++ (⟨#[103]⟩ : ByteArray)) t154 t155 t156 _ ?side1 A58.out).mono ?_); (case side1 => exact Tabs.below HT (by repeat (first | (with_reducible first | exact HB.out | apply below_alloc | apply pw_below_drewN | apply below_drew1) | exact HB.out))); rintro e w61 ⟨rfl, hb⟩; refine ⟨_, rfl, ?_⟩; have n0_ := Aside0.mk (Kd.R_below (by (with_reducible repeat (first | apply Kd.R_alloc | apply Kd.R_drewN | apply Kd.R_drew)); exact HO_48.out) hb); have n1_ := Aside0.mk (below_step (by repeat (first | (with_reducible first | exact HB.out | apply below_alloc | apply pw_below_drewN | apply below_drew1) | exact HB.out)) hb); clear HO_48; clear HB; have HO_48 := n0_; have HB := n1_; clear n0_ n1_; (try clear hb); (try clear hb2); (try clear hk); (try clear hi)))
                                            go_ret
                                            exact ⟨by first | rfl | (simp [errW_none, errW_some] <;> rfl) | (simp [*, errW_none, errW_some] <;> rfl), by repeat (first | (with_reducible first | exact HB.out | apply below_alloc | apply pw_below_drewN | apply below_drew1) | exact HB.out)⟩
                                          · replace c59 := Bool.eq_false_iff.mpr c59
                                            subst c59
                                            have H1 : (if t156 = true then (some false) else (scholiastlaw02_TokenNumbers.l0 kj46 t129 t130 x6_6 (x6_6.length : Int) (wrap64 (x50_2 + 1)))) = some r := by rw [if_neg (show ¬ (false = true) by decide)] at H; exact H
                                            clear H
                                            have H := H1
                                            clear H1
                                            by_cases c62 : t156 = true
                                            · subst c62
                                              have H1 : (some false) = some r := by rw [if_pos rfl] at H; exact H
                                              clear H
                                              have H := H1
                                              clear H1
                                              obtain rfl := Option.some.inj H
                                              go_wp2_with (first | ((with_reducible refine gate_callee (f := 15) rfl ?_); refine goesL_ (some 121) rfl rfl Tryd.func15 (by kernel_rfl) rfl #[.string (x9_4 ++ (⟨#[95]⟩ : ByteArray))] rfl (by (try simp only [List.map_toArray, List.map_cons, List.map_nil]); first | done | rfl | (simp only [List.length_drop, List.length_take]; rfl) | (rw [extract_all]; rfl)) ?_; (with_reducible refine (token_Digits.calls kj46 (x9_4 ++ (⟨#[95]⟩ : ByteArray)) t151 t152 false _ ?side1 A57.out).mono ?_); (case side1 => exact Tabs.below HT (by repeat (first | (with_reducible first | exact HB.out | apply below_alloc | apply pw_below_drewN | apply below_drew1) | exact HB.out))); rintro e w63 ⟨rfl, hb⟩; refine ⟨_, rfl, ?_⟩; have n0_ := Aside0.mk (Kd.R_below (by (with_reducible repeat (first | apply Kd.R_alloc | apply Kd.R_drewN | apply Kd.R_drew)); exact HO_48.out) hb); have n1_ := Aside0.mk (below_step (by repeat (first | (with_reducible first | exact HB.out | apply below_alloc | apply pw_below_drewN | apply below_drew1) | exact HB.out)) hb); clear HO_48; clear HB; have HO_48 := n0_; have HB := n1_; clear n0_ n1_; (try clear hb); (try clear hb2); (try clear hk); (try clear hi)) | ((with_reducible refine gate_callee (f := 15) rfl ?_); refine goesL_ (some 128) rfl rfl Tryd.func15 (by kernel_rfl) rfl #[.string (x9_4 ++ (⟨#[103]⟩ : ByteArray))] rfl (by (try simp only [List.map_toArray, List.map_cons, List.map_nil]); first | done | rfl | (simp only [List.length_drop, List.length_take]; rfl) | (rw [extract_all]; rfl)) ?_; (with_reducible refine (token_Digits.calls kj46 (x9_4 ++ (⟨#[103]⟩ : ByteArray)) t154 t155 true _ ?side1 A58.out).mono ?_); (case side1 => exact Tabs.below HT (by repeat (first | (with_reducible first | exact HB.out | apply below_alloc | apply pw_below_drewN | apply below_drew1) | exact HB.out))); rintro e w64 ⟨rfl, hb⟩; refine ⟨_, rfl, ?_⟩; have n0_ := Aside0.mk (Kd.R_below (by (with_reducible repeat (first | apply Kd.R_alloc | apply Kd.R_drewN | apply Kd.R_drew)); exact HO_48.out) hb); have n1_ := Aside0.mk (below_step (by repeat (first | (with_reducible first | exact HB.out | apply below_alloc | apply pw_below_drewN | apply below_drew1) | exact HB.out)) hb); clear HO_48; clear HB; have HO_48 := n0_; have HB := n1_; clear n0_ n1_; (try clear hb); (try clear hb2); (try clear hk); (try clear hi)))
                                              go_ret
                                              exact ⟨by first | rfl | (simp [errW_none, errW_some] <;> rfl) | (simp [*, errW_none, errW_some] <;> rfl), by repeat (first | (with_reducible first | exact HB.out | apply below_alloc | apply pw_below_drewN | apply below_drew1) | exact HB.out)⟩
                                            · replace c62 := Bool.eq_false_iff.mpr c62
                                              subst c62
                                              have H1 : (scholiastlaw02_TokenNumbers.l0 kj46 t129 t130 x6_6 (x6_6.length : Int) (wrap64 (x50_2 + 1))) = some r := by rw [if_neg (show ¬ (false = true) by decide)] at H; exact H
                                              clear H
                                              have H := H1
                                              clear H1
                                              have H' := Aside0.mk H
                                              clear H
                                              go_wp2_with (first | ((with_reducible refine gate_callee (f := 15) rfl ?_); refine goesL_ (some 121) rfl rfl Tryd.func15 (by kernel_rfl) rfl #[.string (x9_4 ++ (⟨#[95]⟩ : ByteArray))] rfl (by (try simp only [List.map_toArray, List.map_cons, List.map_nil]); first | done | rfl | (simp only [List.length_drop, List.length_take]; rfl) | (rw [extract_all]; rfl)) ?_; (with_reducible refine (token_Digits.calls kj46 (x9_4 ++ (⟨#[95]⟩ : ByteArray)) t151 t152 false _ ?side1 A57.out).mono ?_); (case side1 => exact Tabs.below HT (by repeat (first | (with_reducible first | exact HB.out | apply below_alloc | apply pw_below_drewN | apply below_drew1) | exact HB.out))); rintro e w65 ⟨rfl, hb⟩; refine ⟨_, rfl, ?_⟩; have n0_ := Aside0.mk (Kd.R_below (by (with_reducible repeat (first | apply Kd.R_alloc | apply Kd.R_drewN | apply Kd.R_drew)); exact HO_48.out) hb); have n1_ := Aside0.mk (below_step (by repeat (first | (with_reducible first | exact HB.out | apply below_alloc | apply pw_below_drewN | apply below_drew1) | exact HB.out)) hb); clear HO_48; clear HB; have HO_48 := n0_; have HB := n1_; clear n0_ n1_; (try clear hb); (try clear hb2); (try clear hk); (try clear hi)) | ((with_reducible refine gate_callee (f := 15) rfl ?_); refine goesL_ (some 128) rfl rfl Tryd.func15 (by kernel_rfl) rfl #[.string (x9_4 ++ (⟨#[103]⟩ : ByteArray))] rfl (by (try simp only [List.map_toArray, List.map_cons, List.map_nil]); first | done | rfl | (simp only [List.length_drop, List.length_take]; rfl) | (rw [extract_all]; rfl)) ?_; (with_reducible refine (token_Digits.calls kj46 (x9_4 ++ (⟨#[103]⟩ : ByteArray)) t154 t155 false _ ?side1 A58.out).mono ?_); (case side1 => exact Tabs.below HT (by repeat (first | (with_reducible first | exact HB.out | apply below_alloc | apply pw_below_drewN | apply below_drew1) | exact HB.out))); rintro e w66 ⟨rfl, hb⟩; refine ⟨_, rfl, ?_⟩; have n0_ := Aside0.mk (Kd.R_below (by (with_reducible repeat (first | apply Kd.R_alloc | apply Kd.R_drewN | apply Kd.R_drew)); exact HO_48.out) hb); have n1_ := Aside0.mk (below_step (by repeat (first | (with_reducible first | exact HB.out | apply below_alloc | apply pw_below_drewN | apply below_drew1) | exact HB.out)) hb); clear HO_48; clear HB; have HO_48 := n0_; have HB := n1_; clear n0_ n1_; (try clear hb); (try clear hb2); (try clear hk); (try clear hi)))
                                              go_roundg kj46
                                              case measure => have := HJ6.out; have := HK2.out; have := HJ24.out; have := HK4.out; have := HJ46.out; omega
                                              case rel => exact ⟨(wrap64 (x50_2 + 1)), (by first | rfl | (simp; done) | (simp [*]; done) | (simp [wrap64]; done) | (simp [isEmpty_bne]; done)), H', ⟨by have := HJ6.out; have := HK2.out; have := HJ24.out; have := HK4.out; have := HJ46.out; omega⟩, ⟨by (with_reducible repeat (first | apply Kd.R_alloc | apply Kd.R_drewN | apply Kd.R_drew)); exact HO_48.out⟩, ⟨by repeat (first | (with_reducible first | exact HB.out | apply below_alloc | apply pw_below_drewN | apply below_drew1) | exact HB.out)⟩⟩
                                        · rw [if_neg c56] at H
                                          exact absurd H (by simp)
                                · rw [if_neg c45] at H
                                  exact absurd H (by simp)
                    · rw [if_neg c24] at H
                      exfalso
                      simp [c24] at c22b0
                  · rw [if_neg c23] at H
                    exact absurd H (by simp)
                · rw [if_neg c22] at H
                  have c22b0 : decide (x50_2 < (x6_6.length : Int)) = false := decide_eq_false c22
                  clear c22
                  obtain rfl := Option.some.inj H
                  go_wp2
                  go_ret
                  exact ⟨by first | rfl | (simp [errW_none, errW_some] <;> rfl) | (simp [*, errW_none, errW_some] <;> rfl), by repeat (first | (with_reducible first | exact HB.out | apply below_alloc | apply pw_below_drewN | apply below_drew1) | exact HB.out)⟩
      · replace c6 := Bool.eq_false_iff.mpr c6
        subst c6
        have H1 : (if t129 = 0 then (some (t130.toList == ([] : List UInt8))) else (some false)) = some r := by rw [if_neg (show ¬ (false = true) by decide)] at H; exact H
        clear H
        have H := H1
        clear H1
        by_cases c67 : t129 = 0
        · rw [if_pos c67] at H
          have c67b0 : (t129 == 0) = true := beq_iff_eq.mpr c67
          have c67b1 : (t129 != 0) = false := bne_eq_false_iff_eq.mpr c67
          clear c67
          obtain rfl := Option.some.inj H
          go_enter Tryd.func5, Tryd.ntmps5
          go_wp2_with (first | ((with_reducible refine gate_callee (f := 10) rfl ?_); refine goesL_ (some 21) rfl rfl Tryd.func10 (by kernel_rfl) rfl #[] rfl (by (try simp only [List.map_toArray, List.map_cons, List.map_nil]); first | done | rfl | (simp only [List.length_drop, List.length_take]; rfl) | (rw [extract_all]; rfl)) ?_; (with_reducible refine (scholiastlaw02_shown.calls k  true _ ?side1 A3.out).mono ?_); (case side1 => exact Tabs.below HT (by repeat (first | (with_reducible first | exact HB.out | apply below_alloc | apply pw_below_drewN | apply below_drew1) | exact HB.out))); rintro e w68 ⟨rfl, hb⟩; refine ⟨_, rfl, ?_⟩; have n0_ := Aside0.mk (below_step (by repeat (first | (with_reducible first | exact HB.out | apply below_alloc | apply pw_below_drewN | apply below_drew1) | exact HB.out)) hb); clear HB; have HB := n0_; clear n0_; (try clear hb); (try clear hb2); (try clear hk); (try clear hi)) | ((with_reducible refine gate_callee (f := 15) rfl ?_); refine goesL_ (some 25) rfl rfl Tryd.func15 (by kernel_rfl) rfl #[.string a0] rfl (by (try simp only [List.map_toArray, List.map_cons, List.map_nil]); first | done | rfl | (simp only [List.length_drop, List.length_take]; rfl) | (rw [extract_all]; rfl)) ?_; (with_reducible refine (token_Digits.calls k a0 t129 t130 false _ ?side1 A5.out).mono ?_); (case side1 => exact Tabs.below HT (by repeat (first | (with_reducible first | exact HB.out | apply below_alloc | apply pw_below_drewN | apply below_drew1) | exact HB.out))); rintro e w69 ⟨rfl, hb⟩; refine ⟨_, rfl, ?_⟩; have n0_ := Aside0.mk (below_step (by repeat (first | (with_reducible first | exact HB.out | apply below_alloc | apply pw_below_drewN | apply below_drew1) | exact HB.out)) hb); clear HB; have HB := n0_; clear n0_; (try clear hb); (try clear hb2); (try clear hk); (try clear hi)))
          go_ret
          exact ⟨by first | rfl | (simp [errW_none, errW_some] <;> rfl) | (simp [*, errW_none, errW_some] <;> rfl), by repeat (first | (with_reducible first | exact HB.out | apply below_alloc | apply pw_below_drewN | apply below_drew1) | exact HB.out)⟩
        · rw [if_neg c67] at H
          have c67b0 : (t129 == 0) = false := beq_eq_false_iff_ne.mpr c67
          have c67b1 : (t129 != 0) = true := bne_iff_ne.mpr c67
          obtain rfl := Option.some.inj H
          go_enter Tryd.func5, Tryd.ntmps5
          go_wp2_with (first | ((with_reducible refine gate_callee (f := 10) rfl ?_); refine goesL_ (some 21) rfl rfl Tryd.func10 (by kernel_rfl) rfl #[] rfl (by (try simp only [List.map_toArray, List.map_cons, List.map_nil]); first | done | rfl | (simp only [List.length_drop, List.length_take]; rfl) | (rw [extract_all]; rfl)) ?_; (with_reducible refine (scholiastlaw02_shown.calls k  true _ ?side1 A3.out).mono ?_); (case side1 => exact Tabs.below HT (by repeat (first | (with_reducible first | exact HB.out | apply below_alloc | apply pw_below_drewN | apply below_drew1) | exact HB.out))); rintro e w70 ⟨rfl, hb⟩; refine ⟨_, rfl, ?_⟩; have n0_ := Aside0.mk (below_step (by repeat (first | (with_reducible first | exact HB.out | apply below_alloc | apply pw_below_drewN | apply below_drew1) | exact HB.out)) hb); clear HB; have HB := n0_; clear n0_; (try clear hb); (try clear hb2); (try clear hk); (try clear hi)) | ((with_reducible refine gate_callee (f := 15) rfl ?_); refine goesL_ (some 25) rfl rfl Tryd.func15 (by kernel_rfl) rfl #[.string a0] rfl (by (try simp only [List.map_toArray, List.map_cons, List.map_nil]); first | done | rfl | (simp only [List.length_drop, List.length_take]; rfl) | (rw [extract_all]; rfl)) ?_; (with_reducible refine (token_Digits.calls k a0 t129 t130 false _ ?side1 A5.out).mono ?_); (case side1 => exact Tabs.below HT (by repeat (first | (with_reducible first | exact HB.out | apply below_alloc | apply pw_below_drewN | apply below_drew1) | exact HB.out))); rintro e w71 ⟨rfl, hb⟩; refine ⟨_, rfl, ?_⟩; have n0_ := Aside0.mk (below_step (by repeat (first | (with_reducible first | exact HB.out | apply below_alloc | apply pw_below_drewN | apply below_drew1) | exact HB.out)) hb); clear HB; have HB := n0_; clear n0_; (try clear hb); (try clear hb2); (try clear hk); (try clear hi)))
          go_ret
          exact ⟨by first | rfl | (simp [errW_none, errW_some] <;> rfl) | (simp [*, errW_none, errW_some] <;> rfl), by repeat (first | (with_reducible first | exact HB.out | apply below_alloc | apply pw_below_drewN | apply below_drew1) | exact HB.out)⟩
    · replace c4 := Bool.eq_false_iff.mpr c4
      subst c4
      have H1 : (some false) = some r := by rw [if_neg (show ¬ (false = true) by decide)] at H; exact H
      clear H
      have H := H1
      clear H1
      obtain rfl := Option.some.inj H
      go_enter Tryd.func5, Tryd.ntmps5
      go_wp2_with (first | ((with_reducible refine gate_callee (f := 10) rfl ?_); refine goesL_ (some 21) rfl rfl Tryd.func10 (by kernel_rfl) rfl #[] rfl (by (try simp only [List.map_toArray, List.map_cons, List.map_nil]); first | done | rfl | (simp only [List.length_drop, List.length_take]; rfl) | (rw [extract_all]; rfl)) ?_; (with_reducible refine (scholiastlaw02_shown.calls k  false _ ?side1 A3.out).mono ?_); (case side1 => exact Tabs.below HT (by repeat (first | (with_reducible first | exact HB.out | apply below_alloc | apply pw_below_drewN | apply below_drew1) | exact HB.out))); rintro e w72 ⟨rfl, hb⟩; refine ⟨_, rfl, ?_⟩; have n0_ := Aside0.mk (below_step (by repeat (first | (with_reducible first | exact HB.out | apply below_alloc | apply pw_below_drewN | apply below_drew1) | exact HB.out)) hb); clear HB; have HB := n0_; clear n0_; (try clear hb); (try clear hb2); (try clear hk); (try clear hi)))
      go_ret
      exact ⟨by first | rfl | (simp [errW_none, errW_some] <;> rfl) | (simp [*, errW_none, errW_some] <;> rfl), by repeat (first | (with_reducible first | exact HB.out | apply below_alloc | apply pw_below_drewN | apply below_drew1) | exact HB.out)⟩

/-- THE ONE PURE STATEMENT of scholiastlaw02_TokenNumbers: yours. -/
def scholiastlaw02_TokenNumbers.Pure : Prop := ∀ (a0 : ByteArray), a0.size ≤ 140737488351232 → ∃ k, scholiastlaw02_TokenNumbers.f k a0 = some true
theorem scholiastlaw02_TokenNumbers.walk (P : scholiastlaw02_TokenNumbers.Pure) (a0 : ByteArray) (w : World) (w0 : a0.size ≤ 140737488351232)(HT : Tabs w) :
    Calls Tryd.prog 5 #[.string a0] w fun e w' => e = .returned (.bool true) ∧ Below w.heap.size w w' := by
  obtain ⟨k, h⟩ := P a0 w0
  refine (scholiastlaw02_TokenNumbers.calls k a0 true w HT h).mono ?_
  rintro e w' ⟨rfl, hd⟩
  exact ⟨rfl, hd⟩

end Go.Proofs.YtkpceagbjodbbaaDoor.PB
