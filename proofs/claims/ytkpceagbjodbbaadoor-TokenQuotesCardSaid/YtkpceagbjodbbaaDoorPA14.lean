-- Printed by a program of this session (wip/xprint.py) for this claim: Lean checks it.
import Derived.Test.YtkpceagbjodbbaaDoorPA0
import Derived.Test.YtkpceagbjodbbaaDoorPA13
namespace Go.Proofs.YtkpceagbjodbbaaDoor.PA
open Go.RowKit Go.Proofs.YtkpceagbjodbbaaDoor.Ext Go.Proofs.YtkpceagbjodbbaaDoorW.PrintWords Go.Proofs.YtkpceagbjodbbaaDoorW.PrintLast Go.Proofs.YtkpceagbjodbbaaDoorW.PrintMore
attribute [local go_sem] max2_int min2_int max_two min_two max_three min_three max_four min_four   -- for this text's walks alone
set_option linter.unusedVariables false
set_option linter.unusedSimpArgs false

/-! ### scholiastref02_Digits: function 16 -/
mutual
def scholiastref02_Digits.j0 : Nat → ByteArray → Int → Int → Bool → Option (Int × ByteArray × Bool)
  | 0, _, _, _, _ => none
  | k + 1, x0, x5, x6, x18 => if x18 = true then (if 1 < (x0.size : Int) then (if (bt x0 1) = 98 then (scholiastref02_Digits.j1 k x0 8 1 (bt x0 1) ((bt x0 1) == 98)) else (scholiastref02_Digits.j1 k x0 8 1 (bt x0 1) ((bt x0 1) == 66))) else (none)) else (if 0 ≤ x6 then (if x6 ≤ (x0.size : Int) then ((scholiastref02_row.f k (x0.extract (x6 : Int).toNat x0.size) x5 (decide ((x6 : Int) > 0))).bind fun bt184 => (if bt184.2 = true then (some (x5, bt184.1, true)) else (some (0, (⟨#[]⟩ : ByteArray), false)))) else (none)) else (none))
def scholiastref02_Digits.j1 : Nat → ByteArray → Int → Int → Int → Bool → Option (Int × ByteArray × Bool)
  | 0, _, _, _, _, _ => none
  | k + 1, x0, x5, x6, x20, x21 => if x21 = true then (if 2 ≤ (x0.size : Int) then ((scholiastref02_row.f k (x0.extract 2 x0.size) 2 (decide ((2 : Int) > 0))).bind fun bt176 => (if bt176.2 = true then (some (2, bt176.1, true)) else (some (0, (⟨#[]⟩ : ByteArray), false)))) else (none)) else (if x20 = 111 then (scholiastref02_Digits.j2 k x0 x5 x6 x20 (x20 == 111)) else (scholiastref02_Digits.j2 k x0 x5 x6 x20 (x20 == 79)))
def scholiastref02_Digits.j2 : Nat → ByteArray → Int → Int → Int → Bool → Option (Int × ByteArray × Bool)
  | 0, _, _, _, _, _ => none
  | k + 1, x0, x5, x6, x20, x24 => if x24 = true then (if 2 ≤ (x0.size : Int) then ((scholiastref02_row.f k (x0.extract 2 x0.size) x5 (decide ((2 : Int) > 0))).bind fun bt178 => (if bt178.2 = true then (some (x5, bt178.1, true)) else (some (0, (⟨#[]⟩ : ByteArray), false)))) else (none)) else (if x20 = 120 then (scholiastref02_Digits.j3 k x0 x5 x6 (x20 == 120)) else (scholiastref02_Digits.j3 k x0 x5 x6 (x20 == 88)))
def scholiastref02_Digits.j3 : Nat → ByteArray → Int → Int → Bool → Option (Int × ByteArray × Bool)
  | 0, _, _, _, _ => none
  | k + 1, x0, x5, x6, x27 => if x27 = true then (if 2 ≤ (x0.size : Int) then ((scholiastref02_row.f k (x0.extract 2 x0.size) 16 (decide ((2 : Int) > 0))).bind fun bt180 => (if bt180.2 = true then (some (16, bt180.1, true)) else (some (0, (⟨#[]⟩ : ByteArray), false)))) else (none)) else (if 0 ≤ x6 then (if x6 ≤ (x0.size : Int) then ((scholiastref02_row.f k (x0.extract (x6 : Int).toNat x0.size) x5 (decide ((x6 : Int) > 0))).bind fun bt182 => (if bt182.2 = true then (some (x5, bt182.1, true)) else (some (0, (⟨#[]⟩ : ByteArray), false)))) else (none)) else (none))
end
def scholiastref02_Digits.f (k : Nat) (a0 : ByteArray) : Option (Int × ByteArray × Bool) := if a0.toList = ([48] : List UInt8) then (some (10, (⟨#[48]⟩ : ByteArray), true)) else (if (a0.size : Int) > 1 then (if 0 < (a0.size : Int) then (scholiastref02_Digits.j0 k a0 10 0 ((bt a0 0) == 48)) else (none)) else (scholiastref02_Digits.j0 k a0 10 0 false))
theorem scholiastref02_Digits.mono_l : ∀ k, (∀ y0 y1 y2 y3, LeO (scholiastref02_Digits.j0 k y0 y1 y2 y3) (scholiastref02_Digits.j0 (k + 1) y0 y1 y2 y3)) ∧ (∀ y0 y1 y2 y3 y4, LeO (scholiastref02_Digits.j1 k y0 y1 y2 y3 y4) (scholiastref02_Digits.j1 (k + 1) y0 y1 y2 y3 y4)) ∧ (∀ y0 y1 y2 y3 y4, LeO (scholiastref02_Digits.j2 k y0 y1 y2 y3 y4) (scholiastref02_Digits.j2 (k + 1) y0 y1 y2 y3 y4)) ∧ (∀ y0 y1 y2 y3, LeO (scholiastref02_Digits.j3 k y0 y1 y2 y3) (scholiastref02_Digits.j3 (k + 1) y0 y1 y2 y3))
  | 0 => ⟨fun _ _ _ _ r h => by simp [scholiastref02_Digits.j0] at h, fun _ _ _ _ _ r h => by simp [scholiastref02_Digits.j1] at h, fun _ _ _ _ _ r h => by simp [scholiastref02_Digits.j2] at h, fun _ _ _ _ r h => by simp [scholiastref02_Digits.j3] at h⟩
  | k + 1 => by
    obtain ⟨ih0, ih1, ih2, ih3⟩ := scholiastref02_Digits.mono_l k
    refine ⟨?_, ?_, ?_, ?_⟩
    · intro y0 y1 y2 y3
      unfold scholiastref02_Digits.j0
      repeat' first
      | (with_reducible exact ih0 _ _ _ _)
      | (with_reducible exact ih1 _ _ _ _ _)
      | (with_reducible exact ih2 _ _ _ _ _)
      | (with_reducible exact ih3 _ _ _ _)
      | (with_reducible exact scholiastref02_row.mono _ _ _ _)
      | (with_reducible exact LeO.refl _)
      | (with_reducible exact LeO.none _)
      | (with_reducible refine LeO.ite ?_ ?_)
      | (with_reducible refine LeO.bind ?_ (fun _ => ?_))
      | exact ih0 _ _ _ _
      | exact ih1 _ _ _ _ _
      | exact ih2 _ _ _ _ _
      | exact ih3 _ _ _ _
      | exact scholiastref02_row.mono _ _ _ _
      | exact LeO.none _
      | refine LeO.ite ?_ ?_
      | refine LeO.bind ?_ (fun _ => ?_)
    · intro y0 y1 y2 y3 y4
      unfold scholiastref02_Digits.j1
      repeat' first
      | (with_reducible exact ih0 _ _ _ _)
      | (with_reducible exact ih1 _ _ _ _ _)
      | (with_reducible exact ih2 _ _ _ _ _)
      | (with_reducible exact ih3 _ _ _ _)
      | (with_reducible exact scholiastref02_row.mono _ _ _ _)
      | (with_reducible exact LeO.refl _)
      | (with_reducible exact LeO.none _)
      | (with_reducible refine LeO.ite ?_ ?_)
      | (with_reducible refine LeO.bind ?_ (fun _ => ?_))
      | exact ih0 _ _ _ _
      | exact ih1 _ _ _ _ _
      | exact ih2 _ _ _ _ _
      | exact ih3 _ _ _ _
      | exact scholiastref02_row.mono _ _ _ _
      | exact LeO.none _
      | refine LeO.ite ?_ ?_
      | refine LeO.bind ?_ (fun _ => ?_)
    · intro y0 y1 y2 y3 y4
      unfold scholiastref02_Digits.j2
      repeat' first
      | (with_reducible exact ih0 _ _ _ _)
      | (with_reducible exact ih1 _ _ _ _ _)
      | (with_reducible exact ih2 _ _ _ _ _)
      | (with_reducible exact ih3 _ _ _ _)
      | (with_reducible exact scholiastref02_row.mono _ _ _ _)
      | (with_reducible exact LeO.refl _)
      | (with_reducible exact LeO.none _)
      | (with_reducible refine LeO.ite ?_ ?_)
      | (with_reducible refine LeO.bind ?_ (fun _ => ?_))
      | exact ih0 _ _ _ _
      | exact ih1 _ _ _ _ _
      | exact ih2 _ _ _ _ _
      | exact ih3 _ _ _ _
      | exact scholiastref02_row.mono _ _ _ _
      | exact LeO.none _
      | refine LeO.ite ?_ ?_
      | refine LeO.bind ?_ (fun _ => ?_)
    · intro y0 y1 y2 y3
      unfold scholiastref02_Digits.j3
      repeat' first
      | (with_reducible exact ih0 _ _ _ _)
      | (with_reducible exact ih1 _ _ _ _ _)
      | (with_reducible exact ih2 _ _ _ _ _)
      | (with_reducible exact ih3 _ _ _ _)
      | (with_reducible exact scholiastref02_row.mono _ _ _ _)
      | (with_reducible exact LeO.refl _)
      | (with_reducible exact LeO.none _)
      | (with_reducible refine LeO.ite ?_ ?_)
      | (with_reducible refine LeO.bind ?_ (fun _ => ?_))
      | exact ih0 _ _ _ _
      | exact ih1 _ _ _ _ _
      | exact ih2 _ _ _ _ _
      | exact ih3 _ _ _ _
      | exact scholiastref02_row.mono _ _ _ _
      | exact LeO.none _
      | refine LeO.ite ?_ ?_
      | refine LeO.bind ?_ (fun _ => ?_)
theorem scholiastref02_Digits.mono : ∀ a0 k, LeO (scholiastref02_Digits.f k a0) (scholiastref02_Digits.f (k + 1) a0) := by
  intro a0 k
  obtain ⟨ih0, ih1, ih2, ih3⟩ := scholiastref02_Digits.mono_l k
  unfold scholiastref02_Digits.f
  repeat' first
      | (with_reducible exact ih0 _ _ _ _)
      | (with_reducible exact ih1 _ _ _ _ _)
      | (with_reducible exact ih2 _ _ _ _ _)
      | (with_reducible exact ih3 _ _ _ _)
      | (with_reducible exact scholiastref02_row.mono _ _ _ _)
      | (with_reducible exact LeO.refl _)
      | (with_reducible exact LeO.none _)
      | (with_reducible refine LeO.ite ?_ ?_)
      | (with_reducible refine LeO.bind ?_ (fun _ => ?_))
      | exact ih0 _ _ _ _
      | exact ih1 _ _ _ _ _
      | exact ih2 _ _ _ _ _
      | exact ih3 _ _ _ _
      | exact scholiastref02_row.mono _ _ _ _
      | exact LeO.none _
      | refine LeO.ite ?_ ?_
      | refine LeO.bind ?_ (fun _ => ?_)
set_option maxHeartbeats 8000000 in
set_option maxRecDepth 100000 in
theorem scholiastref02_Digits.calls (k : Nat) (a0 : ByteArray) (r1 : Int) (r2 : ByteArray) (r3 : Bool) (w : World) (h : scholiastref02_Digits.f k a0 = some (r1, r2, r3)) :
    Calls Tryd.prog 16 #[.string a0] w fun e w' => e = .returned (.tuple #[.int .i64 r1, .string r2, .bool r3]) ∧ Drawn0 w w' := by
  have H : (if a0.toList = ([48] : List UInt8) then (some (10, (⟨#[48]⟩ : ByteArray), true)) else (if (a0.size : Int) > 1 then (if 0 < (a0.size : Int) then (scholiastref02_Digits.j0 k a0 10 0 ((bt a0 0) == 48)) else (none)) else (scholiastref02_Digits.j0 k a0 10 0 false))) = some (r1, r2, r3) := h
  clear h
  by_cases c2 : a0.toList = ([48] : List UInt8)
  · rw [if_pos c2] at H
    have c2b0 : (a0.toList == ([48] : List UInt8)) = true := beq_iff_eq.mpr c2
    have c2b1 : (a0.toList != ([48] : List UInt8)) = false := bne_eq_false_iff_eq.mpr c2
    clear c2
    simp only [Option.some.injEq, Prod.mk.injEq] at H
    obtain ⟨rfl, rfl, rfl⟩ := H
    go_enter Tryd.func16, Tryd.ntmps16
    go_wp2
    go_ret3
    exact ⟨by first | rfl | (simp; done) | (simp [*]; done) | (simp [wrap64]; done) | (simp [isEmpty_bne]; done), by repeat (first | exact Drawn0.refl _ | apply Drawn0.step)⟩
  · rw [if_neg c2] at H
    have c2b0 : (a0.toList == ([48] : List UInt8)) = false := beq_eq_false_iff_ne.mpr c2
    have c2b1 : (a0.toList != ([48] : List UInt8)) = true := bne_iff_ne.mpr c2
    have HC3 := Aside0.mk H
    clear H
    go_enter Tryd.func16, Tryd.ntmps16
    go_upto_region 4 with (fail)
    go_cut [18] (fun v18 wc => ∃ (kq : Nat) (x18_2 : Bool), v18 = .bool x18_2 ∧ Aside0 (scholiastref02_Digits.j0 kq a0 10 0 x18_2 = some (r1, r2, r3)) ∧ Aside0 (kq ≤ k) ∧ Drawn0 w wc)
    case first =>
      have H := HC3.out
      clear HC3
      by_cases c4 : (a0.size : Int) > 1
      · rw [if_pos c4] at H
        have c4b0 : decide (1 < (a0.size : Int)) = true := decide_eq_true c4
        have c4b1 : decide (1 < a0.size) = true := decide_eq_true (by omega)
        clear c4
        (first | rw [c4b0] | (simp only [i64_w, i32_w]; rw [c4b0]) | skip)
        by_cases c5 : 0 < (a0.size : Int)
        · rw [if_pos c5] at H
          have c5b0 : decide (0 < (a0.size : Int)) = true := decide_eq_true c5
          have c5b1 : decide (0 < a0.size) = true := decide_eq_true (by omega)
          clear c5
          have H' := Aside0.mk H
          clear H
          have p6 : 0 ≤ (0 : Int) := (by omega)
          have q6 : 0 < a0.size := (by have : (0 : Int) < (a0.size : Int) := of_decide_eq_true (by first | (with_reducible assumption) | assumption); omega)
          have hx6 : ∀ h : 0 < a0.size, ((a0[0]'h).toNat : Int) = bt a0 0 := bt_at a0 0
          clear p6
          have qi6 : (0 < (a0.size : Int)) = True := eq_true (of_decide_eq_true (by first | (with_reducible assumption) | assumption))
          replace q6 := eq_true q6
          go_wp2
          go_meet
          case rel => exact ⟨_, (((bt a0 0) == 48)), (by first | rfl | (simp; done) | (simp [*]; done) | (simp [wrap64]; done) | (simp [isEmpty_bne]; done)), H', ⟨by first | omega | exact Nat.le_refl _⟩, by repeat (first | exact Drawn0.refl _ | apply Drawn0.step)⟩
        · rw [if_neg c5] at H
          exact absurd H (by simp)
      · rw [if_neg c4] at H
        have c4b0 : decide (1 < (a0.size : Int)) = false := decide_eq_false c4
        have c4b1 : decide (1 < a0.size) = false := decide_eq_false (by omega)
        clear c4
        (first | rw [c4b0] | (simp only [i64_w, i32_w]; rw [c4b0]) | skip)
        have H' := Aside0.mk H
        clear H
        go_wp2
        go_meet
        case rel => exact ⟨_, (false), (by first | rfl | (simp; done) | (simp [*]; done) | (simp [wrap64]; done) | (simp [isEmpty_bne]; done)), H', ⟨by first | omega | exact Nat.le_refl _⟩, by repeat (first | exact Drawn0.refl _ | apply Drawn0.step)⟩
    case rest =>
      clear HC3
      try clear c1
      try clear c2
      try clear c2b0
      try clear c2b1
      try clear p2
      try clear c4
      try clear c4b0
      try clear c4b1
      try clear c5
      try clear c5b0
      try clear c5b1
      try clear p6
      try clear q6
      try clear hx6
      try clear qi6
      try clear p6
      try clear q6
      obtain ⟨kq, x18_2, rfl, HA, HJ2, ⟨mc2, rfl⟩⟩ := hcut
      cases kq with
      | zero => exact absurd HA.out (by simp [scholiastref02_Digits.j0])
      | succ kj2 =>
        have H := HA.out
        clear HA
        simp only [scholiastref02_Digits.j0] at H
        by_cases c7 : x18_2 = true
        · subst c7
          have H1 : (if 1 < (a0.size : Int) then (if (bt a0 1) = 98 then (scholiastref02_Digits.j1 kj2 a0 8 1 (bt a0 1) ((bt a0 1) == 98)) else (scholiastref02_Digits.j1 kj2 a0 8 1 (bt a0 1) ((bt a0 1) == 66))) else (none)) = some (r1, r2, r3) := by rw [if_pos rfl] at H; exact H
          clear H
          have H := H1
          clear H1
          by_cases c8 : 1 < (a0.size : Int)
          · rw [if_pos c8] at H
            have c8b0 : decide (1 < (a0.size : Int)) = true := decide_eq_true c8
            have c8b1 : decide (1 < a0.size) = true := decide_eq_true (by omega)
            clear c8
            have HC10 := Aside0.mk H
            clear H
            have p9 : 0 ≤ (1 : Int) := (by omega)
            have q9 : 1 < a0.size := (by have : (1 : Int) < (a0.size : Int) := of_decide_eq_true (by first | (with_reducible assumption) | assumption); omega)
            have hx9 : ∀ h : 1 < a0.size, ((a0[1]'h).toNat : Int) = bt a0 1 := bt_at a0 1
            clear p9
            have qi9 : (1 < (a0.size : Int)) = True := eq_true (of_decide_eq_true (by first | (with_reducible assumption) | assumption))
            replace q9 := eq_true q9
            go_upto_if 21 with (fail)
            go_cut [21] (fun v21 wc => ∃ (kq : Nat) (x21_9 : Bool), v21 = .bool x21_9 ∧ Aside0 (scholiastref02_Digits.j1 kq a0 8 1 (bt a0 1) x21_9 = some (r1, r2, r3)) ∧ Aside0 (kq ≤ kj2) ∧ Drawn0 w wc)
            case first =>
              have H := HC10.out
              clear HC10
              by_cases c11 : (bt a0 1) = 98
              · rw [if_pos c11] at H
                have c11b0 : ((bt a0 1) == 98) = true := beq_iff_eq.mpr c11
                have c11b1 : ((bt a0 1) != 98) = false := bne_eq_false_iff_eq.mpr c11
                clear c11
                (first | rw [c11b0] | (simp only [i64_w, i32_w]; rw [c11b0]) | skip)
                have H' := Aside0.mk H
                clear H
                go_wp2
                go_meet
                case rel => exact ⟨_, (((bt a0 1) == 98)), (by first | rfl | (simp; done) | (simp [*]; done) | (simp [wrap64]; done) | (simp [isEmpty_bne]; done)), H', ⟨by have := HJ2.out; first | omega | exact Nat.le_refl _⟩, by repeat (first | exact Drawn0.refl _ | apply Drawn0.step)⟩
              · rw [if_neg c11] at H
                have c11b0 : ((bt a0 1) == 98) = false := beq_eq_false_iff_ne.mpr c11
                have c11b1 : ((bt a0 1) != 98) = true := bne_iff_ne.mpr c11
                (first | rw [c11b0] | (simp only [i64_w, i32_w]; rw [c11b0]) | skip)
                have H' := Aside0.mk H
                clear H
                go_wp2
                go_meet
                case rel => exact ⟨_, (((bt a0 1) == 66)), (by first | rfl | (simp; done) | (simp [*]; done) | (simp [wrap64]; done) | (simp [isEmpty_bne]; done)), H', ⟨by have := HJ2.out; first | omega | exact Nat.le_refl _⟩, by repeat (first | exact Drawn0.refl _ | apply Drawn0.step)⟩
            case rest =>
              clear HC10
              try clear c1
              try clear c2
              try clear c2b0
              try clear c2b1
              try clear p2
              try clear c4
              try clear c4b0
              try clear c4b1
              try clear c5
              try clear c5b0
              try clear c5b1
              try clear p6
              try clear q6
              try clear hx6
              try clear qi6
              try clear c7
              try clear c8
              try clear c8b0
              try clear c8b1
              try clear p9
              try clear q9
              try clear hx9
              try clear qi9
              try clear c11
              try clear c11b0
              try clear c11b1
              try clear p2
              try clear p6
              try clear p9
              try clear q6
              try clear q9
              obtain ⟨kq, x21_9, rfl, HA, HJ9, ⟨mc9, rfl⟩⟩ := hcut
              cases kq with
              | zero => exact absurd HA.out (by simp [scholiastref02_Digits.j1])
              | succ kj9 =>
                have H := HA.out
                clear HA
                simp only [scholiastref02_Digits.j1] at H
                by_cases c12 : x21_9 = true
                · subst c12
                  have H1 : (if 2 ≤ (a0.size : Int) then ((scholiastref02_row.f kj9 (a0.extract 2 a0.size) 2 (decide ((2 : Int) > 0))).bind fun bt176 => (if bt176.2 = true then (some (2, bt176.1, true)) else (some (0, (⟨#[]⟩ : ByteArray), false)))) else (none)) = some (r1, r2, r3) := by rw [if_pos rfl] at H; exact H
                  clear H
                  have H := H1
                  clear H1
                  by_cases c13 : 2 ≤ (a0.size : Int)
                  · rw [if_pos c13] at H
                    have c13b0 := eq_true c13
                    have c13b1 : decide (2 ≤ (a0.size : Int)) = true := decide_eq_true c13
                    clear c13
                    replace H := Option.bind_eq_some_iff.mp H
                    obtain ⟨⟨t176, t177⟩, A140, H⟩ := H
                    replace H : (if t177 = true then (some (2, t176, true)) else (some (0, (⟨#[]⟩ : ByteArray), false))) = some (r1, r2, r3) := H
                    have A14 := Aside0.mk A140
                    clear A140
                    by_cases c15 : t177 = true
                    · subst c15
                      have H1 : (some (2, t176, true)) = some (r1, r2, r3) := by rw [if_pos rfl] at H; exact H
                      clear H
                      have H := H1
                      clear H1
                      simp only [Option.some.injEq, Prod.mk.injEq] at H
                      obtain ⟨rfl, rfl, rfl⟩ := H
                      go_wp2_with (first | ((with_reducible refine gate_callee (f := 40) rfl ?_); refine goesL_ (some 37) rfl rfl Tryd.func40 (by kernel_rfl) rfl #[.string (a0.extract 2 a0.size), .int .i64 2, .bool (decide ((2 : Int) > 0))] rfl (by (try simp only [List.map_toArray, List.map_cons, List.map_nil]); first | done | rfl | (simp only [List.length_drop, List.length_take]; rfl) | (rw [extract_all]; rfl)) ?_; (with_reducible refine (scholiastref02_row.calls kj9 (a0.extract 2 a0.size) 2 (decide ((2 : Int) > 0)) t176 true _ A14.out).mono ?_); rintro e w' ⟨rfl, ⟨nd, rfl⟩⟩; refine ⟨_, rfl, ?_⟩))
                      go_ret3
                      exact ⟨by first | rfl | (simp; done) | (simp [*]; done) | (simp [wrap64]; done) | (simp [isEmpty_bne]; done), by repeat (first | exact Drawn0.refl _ | apply Drawn0.step)⟩
                    · replace c15 := Bool.eq_false_iff.mpr c15
                      subst c15
                      have H1 : (some (0, (⟨#[]⟩ : ByteArray), false)) = some (r1, r2, r3) := by rw [if_neg (show ¬ (false = true) by decide)] at H; exact H
                      clear H
                      have H := H1
                      clear H1
                      simp only [Option.some.injEq, Prod.mk.injEq] at H
                      obtain ⟨rfl, rfl, rfl⟩ := H
                      go_wp2_with (first | ((with_reducible refine gate_callee (f := 40) rfl ?_); refine goesL_ (some 37) rfl rfl Tryd.func40 (by kernel_rfl) rfl #[.string (a0.extract 2 a0.size), .int .i64 2, .bool (decide ((2 : Int) > 0))] rfl (by (try simp only [List.map_toArray, List.map_cons, List.map_nil]); first | done | rfl | (simp only [List.length_drop, List.length_take]; rfl) | (rw [extract_all]; rfl)) ?_; (with_reducible refine (scholiastref02_row.calls kj9 (a0.extract 2 a0.size) 2 (decide ((2 : Int) > 0)) t176 false _ A14.out).mono ?_); rintro e w' ⟨rfl, ⟨nd, rfl⟩⟩; refine ⟨_, rfl, ?_⟩))
                      go_ret3
                      exact ⟨by first | rfl | (simp; done) | (simp [*]; done) | (simp [wrap64]; done) | (simp [isEmpty_bne]; done), by repeat (first | exact Drawn0.refl _ | apply Drawn0.step)⟩
                  · rw [if_neg c13] at H
                    exact absurd H (by simp)
                · replace c12 := Bool.eq_false_iff.mpr c12
                  subst c12
                  have H1 : (if (bt a0 1) = 111 then (scholiastref02_Digits.j2 kj9 a0 8 1 (bt a0 1) ((bt a0 1) == 111)) else (scholiastref02_Digits.j2 kj9 a0 8 1 (bt a0 1) ((bt a0 1) == 79))) = some (r1, r2, r3) := by rw [if_neg (show ¬ (false = true) by decide)] at H; exact H
                  clear H
                  have H := H1
                  clear H1
                  have HC16 := Aside0.mk H
                  clear H
                  go_upto_if 24 with (fail)
                  go_cut [24] (fun v24 wc => ∃ (kq : Nat) (x24_15 : Bool), v24 = .bool x24_15 ∧ Aside0 (scholiastref02_Digits.j2 kq a0 8 1 (bt a0 1) x24_15 = some (r1, r2, r3)) ∧ Aside0 (kq ≤ kj9) ∧ Drawn0 w wc)
                  case first =>
                    have H := HC16.out
                    clear HC16
                    by_cases c17 : (bt a0 1) = 111
                    · rw [if_pos c17] at H
                      have c17b0 : ((bt a0 1) == 111) = true := beq_iff_eq.mpr c17
                      have c17b1 : ((bt a0 1) != 111) = false := bne_eq_false_iff_eq.mpr c17
                      clear c17
                      (first | rw [c17b0] | (simp only [i64_w, i32_w]; rw [c17b0]) | skip)
                      have H' := Aside0.mk H
                      clear H
                      go_wp2
                      go_meet
                      case rel => exact ⟨_, (((bt a0 1) == 111)), (by first | rfl | (simp; done) | (simp [*]; done) | (simp [wrap64]; done) | (simp [isEmpty_bne]; done)), H', ⟨by have := HJ2.out; have := HJ9.out; first | omega | exact Nat.le_refl _⟩, by repeat (first | exact Drawn0.refl _ | apply Drawn0.step)⟩
                    · rw [if_neg c17] at H
                      have c17b0 : ((bt a0 1) == 111) = false := beq_eq_false_iff_ne.mpr c17
                      have c17b1 : ((bt a0 1) != 111) = true := bne_iff_ne.mpr c17
                      (first | rw [c17b0] | (simp only [i64_w, i32_w]; rw [c17b0]) | skip)
                      have H' := Aside0.mk H
                      clear H
                      go_wp2
                      go_meet
                      case rel => exact ⟨_, (((bt a0 1) == 79)), (by first | rfl | (simp; done) | (simp [*]; done) | (simp [wrap64]; done) | (simp [isEmpty_bne]; done)), H', ⟨by have := HJ2.out; have := HJ9.out; first | omega | exact Nat.le_refl _⟩, by repeat (first | exact Drawn0.refl _ | apply Drawn0.step)⟩
                  case rest =>
                    clear HC16
                    try clear c1
                    try clear c2
                    try clear c2b0
                    try clear c2b1
                    try clear p2
                    try clear c4
                    try clear c4b0
                    try clear c4b1
                    try clear c5
                    try clear c5b0
                    try clear c5b1
                    try clear p6
                    try clear q6
                    try clear hx6
                    try clear qi6
                    try clear c7
                    try clear c8
                    try clear c8b0
                    try clear c8b1
                    try clear c9
                    try clear p9
                    try clear q9
                    try clear hx9
                    try clear qi9
                    try clear c11
                    try clear c11b0
                    try clear c11b1
                    try clear c12
                    try clear c13
                    try clear c13b0
                    try clear c13b1
                    try clear c15
                    try clear c16
                    try clear c17
                    try clear c17b0
                    try clear c17b1
                    try clear p2
                    try clear p6
                    try clear p9
                    try clear q6
                    try clear q9
                    obtain ⟨kq, x24_15, rfl, HA, HJ15, ⟨mc15, rfl⟩⟩ := hcut
                    cases kq with
                    | zero => exact absurd HA.out (by simp [scholiastref02_Digits.j2])
                    | succ kj15 =>
                      have H := HA.out
                      clear HA
                      simp only [scholiastref02_Digits.j2] at H
                      by_cases c18 : x24_15 = true
                      · subst c18
                        have H1 : (if 2 ≤ (a0.size : Int) then ((scholiastref02_row.f kj15 (a0.extract 2 a0.size) 8 (decide ((2 : Int) > 0))).bind fun bt178 => (if bt178.2 = true then (some (8, bt178.1, true)) else (some (0, (⟨#[]⟩ : ByteArray), false)))) else (none)) = some (r1, r2, r3) := by rw [if_pos rfl] at H; exact H
                        clear H
                        have H := H1
                        clear H1
                        by_cases c19 : 2 ≤ (a0.size : Int)
                        · rw [if_pos c19] at H
                          have c19b0 := eq_true c19
                          have c19b1 : decide (2 ≤ (a0.size : Int)) = true := decide_eq_true c19
                          clear c19
                          replace H := Option.bind_eq_some_iff.mp H
                          obtain ⟨⟨t178, t179⟩, A200, H⟩ := H
                          replace H : (if t179 = true then (some (8, t178, true)) else (some (0, (⟨#[]⟩ : ByteArray), false))) = some (r1, r2, r3) := H
                          have A20 := Aside0.mk A200
                          clear A200
                          by_cases c21 : t179 = true
                          · subst c21
                            have H1 : (some (8, t178, true)) = some (r1, r2, r3) := by rw [if_pos rfl] at H; exact H
                            clear H
                            have H := H1
                            clear H1
                            simp only [Option.some.injEq, Prod.mk.injEq] at H
                            obtain ⟨rfl, rfl, rfl⟩ := H
                            go_wp2_with (first | ((with_reducible refine gate_callee (f := 40) rfl ?_); refine goesL_ (some 37) rfl rfl Tryd.func40 (by kernel_rfl) rfl #[.string (a0.extract 2 a0.size), .int .i64 8, .bool (decide ((2 : Int) > 0))] rfl (by (try simp only [List.map_toArray, List.map_cons, List.map_nil]); first | done | rfl | (simp only [List.length_drop, List.length_take]; rfl) | (rw [extract_all]; rfl)) ?_; (with_reducible refine (scholiastref02_row.calls kj15 (a0.extract 2 a0.size) 8 (decide ((2 : Int) > 0)) t178 true _ A20.out).mono ?_); rintro e w' ⟨rfl, ⟨nd, rfl⟩⟩; refine ⟨_, rfl, ?_⟩))
                            go_ret3
                            exact ⟨by first | rfl | (simp; done) | (simp [*]; done) | (simp [wrap64]; done) | (simp [isEmpty_bne]; done), by repeat (first | exact Drawn0.refl _ | apply Drawn0.step)⟩
                          · replace c21 := Bool.eq_false_iff.mpr c21
                            subst c21
                            have H1 : (some (0, (⟨#[]⟩ : ByteArray), false)) = some (r1, r2, r3) := by rw [if_neg (show ¬ (false = true) by decide)] at H; exact H
                            clear H
                            have H := H1
                            clear H1
                            simp only [Option.some.injEq, Prod.mk.injEq] at H
                            obtain ⟨rfl, rfl, rfl⟩ := H
                            go_wp2_with (first | ((with_reducible refine gate_callee (f := 40) rfl ?_); refine goesL_ (some 37) rfl rfl Tryd.func40 (by kernel_rfl) rfl #[.string (a0.extract 2 a0.size), .int .i64 8, .bool (decide ((2 : Int) > 0))] rfl (by (try simp only [List.map_toArray, List.map_cons, List.map_nil]); first | done | rfl | (simp only [List.length_drop, List.length_take]; rfl) | (rw [extract_all]; rfl)) ?_; (with_reducible refine (scholiastref02_row.calls kj15 (a0.extract 2 a0.size) 8 (decide ((2 : Int) > 0)) t178 false _ A20.out).mono ?_); rintro e w' ⟨rfl, ⟨nd, rfl⟩⟩; refine ⟨_, rfl, ?_⟩))
                            go_ret3
                            exact ⟨by first | rfl | (simp; done) | (simp [*]; done) | (simp [wrap64]; done) | (simp [isEmpty_bne]; done), by repeat (first | exact Drawn0.refl _ | apply Drawn0.step)⟩
                        · rw [if_neg c19] at H
                          exact absurd H (by simp)
                      · replace c18 := Bool.eq_false_iff.mpr c18
                        subst c18
                        have H1 : (if (bt a0 1) = 120 then (scholiastref02_Digits.j3 kj15 a0 8 1 ((bt a0 1) == 120)) else (scholiastref02_Digits.j3 kj15 a0 8 1 ((bt a0 1) == 88))) = some (r1, r2, r3) := by rw [if_neg (show ¬ (false = true) by decide)] at H; exact H
                        clear H
                        have H := H1
                        clear H1
                        have HC22 := Aside0.mk H
                        clear H
                        go_upto_if 27 with (fail)
                        go_cut [27] (fun v27 wc => ∃ (kq : Nat) (x27_21 : Bool), v27 = .bool x27_21 ∧ Aside0 (scholiastref02_Digits.j3 kq a0 8 1 x27_21 = some (r1, r2, r3)) ∧ Aside0 (kq ≤ kj15) ∧ Drawn0 w wc)
                        case first =>
                          have H := HC22.out
                          clear HC22
                          by_cases c23 : (bt a0 1) = 120
                          · rw [if_pos c23] at H
                            have c23b0 : ((bt a0 1) == 120) = true := beq_iff_eq.mpr c23
                            have c23b1 : ((bt a0 1) != 120) = false := bne_eq_false_iff_eq.mpr c23
                            clear c23
                            (first | rw [c23b0] | (simp only [i64_w, i32_w]; rw [c23b0]) | skip)
                            have H' := Aside0.mk H
                            clear H
                            go_wp2
                            go_meet
                            case rel => exact ⟨_, (((bt a0 1) == 120)), (by first | rfl | (simp; done) | (simp [*]; done) | (simp [wrap64]; done) | (simp [isEmpty_bne]; done)), H', ⟨by have := HJ2.out; have := HJ9.out; have := HJ15.out; first | omega | exact Nat.le_refl _⟩, by repeat (first | exact Drawn0.refl _ | apply Drawn0.step)⟩
                          · rw [if_neg c23] at H
                            have c23b0 : ((bt a0 1) == 120) = false := beq_eq_false_iff_ne.mpr c23
                            have c23b1 : ((bt a0 1) != 120) = true := bne_iff_ne.mpr c23
                            (first | rw [c23b0] | (simp only [i64_w, i32_w]; rw [c23b0]) | skip)
                            have H' := Aside0.mk H
                            clear H
                            go_wp2
                            go_meet
                            case rel => exact ⟨_, (((bt a0 1) == 88)), (by first | rfl | (simp; done) | (simp [*]; done) | (simp [wrap64]; done) | (simp [isEmpty_bne]; done)), H', ⟨by have := HJ2.out; have := HJ9.out; have := HJ15.out; first | omega | exact Nat.le_refl _⟩, by repeat (first | exact Drawn0.refl _ | apply Drawn0.step)⟩
                        case rest =>
                          clear HC22
                          try clear c1
                          try clear c2
                          try clear c2b0
                          try clear c2b1
                          try clear p2
                          try clear c4
                          try clear c4b0
                          try clear c4b1
                          try clear c5
                          try clear c5b0
                          try clear c5b1
                          try clear p6
                          try clear q6
                          try clear hx6
                          try clear qi6
                          try clear c7
                          try clear c8
                          try clear c8b0
                          try clear c8b1
                          try clear c9
                          try clear p9
                          try clear q9
                          try clear hx9
                          try clear qi9
                          try clear c11
                          try clear c11b0
                          try clear c11b1
                          try clear c12
                          try clear c13
                          try clear c13b0
                          try clear c13b1
                          try clear c15
                          try clear c16
                          try clear c17
                          try clear c17b0
                          try clear c17b1
                          try clear c18
                          try clear c19
                          try clear c19b0
                          try clear c19b1
                          try clear c21
                          try clear c23
                          try clear c23b0
                          try clear c23b1
                          try clear p2
                          try clear p6
                          try clear p9
                          try clear q6
                          try clear q9
                          obtain ⟨kq, x27_21, rfl, HA, HJ21, ⟨mc21, rfl⟩⟩ := hcut
                          cases kq with
                          | zero => exact absurd HA.out (by simp [scholiastref02_Digits.j3])
                          | succ kj21 =>
                            have H := HA.out
                            clear HA
                            simp only [scholiastref02_Digits.j3] at H
                            by_cases c24 : x27_21 = true
                            · subst c24
                              have H1 : (if 2 ≤ (a0.size : Int) then ((scholiastref02_row.f kj21 (a0.extract 2 a0.size) 16 (decide ((2 : Int) > 0))).bind fun bt180 => (if bt180.2 = true then (some (16, bt180.1, true)) else (some (0, (⟨#[]⟩ : ByteArray), false)))) else (none)) = some (r1, r2, r3) := by rw [if_pos rfl] at H; exact H
                              clear H
                              have H := H1
                              clear H1
                              by_cases c25 : 2 ≤ (a0.size : Int)
                              · rw [if_pos c25] at H
                                have c25b0 := eq_true c25
                                have c25b1 : decide (2 ≤ (a0.size : Int)) = true := decide_eq_true c25
                                clear c25
                                replace H := Option.bind_eq_some_iff.mp H
                                obtain ⟨⟨t180, t181⟩, A260, H⟩ := H
                                replace H : (if t181 = true then (some (16, t180, true)) else (some (0, (⟨#[]⟩ : ByteArray), false))) = some (r1, r2, r3) := H
                                have A26 := Aside0.mk A260
                                clear A260
                                by_cases c27 : t181 = true
                                · subst c27
                                  have H1 : (some (16, t180, true)) = some (r1, r2, r3) := by rw [if_pos rfl] at H; exact H
                                  clear H
                                  have H := H1
                                  clear H1
                                  simp only [Option.some.injEq, Prod.mk.injEq] at H
                                  obtain ⟨rfl, rfl, rfl⟩ := H
                                  go_wp2_with (first | ((with_reducible refine gate_callee (f := 40) rfl ?_); refine goesL_ (some 37) rfl rfl Tryd.func40 (by kernel_rfl) rfl #[.string (a0.extract 2 a0.size), .int .i64 16, .bool (decide ((2 : Int) > 0))] rfl (by (try simp only [List.map_toArray, List.map_cons, List.map_nil]); first | done | rfl | (simp only [List.length_drop, List.length_take]; rfl) | (rw [extract_all]; rfl)) ?_; (with_reducible refine (scholiastref02_row.calls kj21 (a0.extract 2 a0.size) 16 (decide ((2 : Int) > 0)) t180 true _ A26.out).mono ?_); rintro e w' ⟨rfl, ⟨nd, rfl⟩⟩; refine ⟨_, rfl, ?_⟩))
                                  go_ret3
                                  exact ⟨by first | rfl | (simp; done) | (simp [*]; done) | (simp [wrap64]; done) | (simp [isEmpty_bne]; done), by repeat (first | exact Drawn0.refl _ | apply Drawn0.step)⟩
                                · replace c27 := Bool.eq_false_iff.mpr c27
                                  subst c27
                                  have H1 : (some (0, (⟨#[]⟩ : ByteArray), false)) = some (r1, r2, r3) := by rw [if_neg (show ¬ (false = true) by decide)] at H; exact H
                                  clear H
                                  have H := H1
                                  clear H1
                                  simp only [Option.some.injEq, Prod.mk.injEq] at H
                                  obtain ⟨rfl, rfl, rfl⟩ := H
                                  go_wp2_with (first | ((with_reducible refine gate_callee (f := 40) rfl ?_); refine goesL_ (some 37) rfl rfl Tryd.func40 (by kernel_rfl) rfl #[.string (a0.extract 2 a0.size), .int .i64 16, .bool (decide ((2 : Int) > 0))] rfl (by (try simp only [List.map_toArray, List.map_cons, List.map_nil]); first | done | rfl | (simp only [List.length_drop, List.length_take]; rfl) | (rw [extract_all]; rfl)) ?_; (with_reducible refine (scholiastref02_row.calls kj21 (a0.extract 2 a0.size) 16 (decide ((2 : Int) > 0)) t180 false _ A26.out).mono ?_); rintro e w' ⟨rfl, ⟨nd, rfl⟩⟩; refine ⟨_, rfl, ?_⟩))
                                  go_ret3
                                  exact ⟨by first | rfl | (simp; done) | (simp [*]; done) | (simp [wrap64]; done) | (simp [isEmpty_bne]; done), by repeat (first | exact Drawn0.refl _ | apply Drawn0.step)⟩
                              · rw [if_neg c25] at H
                                exact absurd H (by simp)
                            · replace c24 := Bool.eq_false_iff.mpr c24
                              subst c24
                              have H1 : (if 0 ≤ 1 then (if 1 ≤ (a0.size : Int) then ((scholiastref02_row.f kj21 (a0.extract (1 : Int).toNat a0.size) 8 (decide ((1 : Int) > 0))).bind fun bt182 => (if bt182.2 = true then (some (8, bt182.1, true)) else (some (0, (⟨#[]⟩ : ByteArray), false)))) else (none)) else (none)) = some (r1, r2, r3) := by rw [if_neg (show ¬ (false = true) by decide)] at H; exact H
                              clear H
                              have H := H1
                              clear H1
                              by_cases c28 : 0 ≤ 1
                              · rw [if_pos c28] at H
                                have c28b0 := eq_true c28
                                have c28b1 : decide (0 ≤ 1) = true := decide_eq_true c28
                                clear c28
                                by_cases c29 : 1 ≤ (a0.size : Int)
                                · rw [if_pos c29] at H
                                  have c29b0 := eq_true c29
                                  have c29b1 : decide (1 ≤ (a0.size : Int)) = true := decide_eq_true c29
                                  clear c29
                                  replace H := Option.bind_eq_some_iff.mp H
                                  obtain ⟨⟨t182, t183⟩, A300, H⟩ := H
                                  replace H : (if t183 = true then (some (8, t182, true)) else (some (0, (⟨#[]⟩ : ByteArray), false))) = some (r1, r2, r3) := H
                                  have A30 := Aside0.mk A300
                                  clear A300
                                  by_cases c31 : t183 = true
                                  · subst c31
                                    have H1 : (some (8, t182, true)) = some (r1, r2, r3) := by rw [if_pos rfl] at H; exact H
                                    clear H
                                    have H := H1
                                    clear H1
                                    simp only [Option.some.injEq, Prod.mk.injEq] at H
                                    obtain ⟨rfl, rfl, rfl⟩ := H
                                    go_wp2_with (first | ((with_reducible refine gate_callee (f := 40) rfl ?_); refine goesL_ (some 37) rfl rfl Tryd.func40 (by kernel_rfl) rfl #[.string (a0.extract (1 : Int).toNat a0.size), .int .i64 8, .bool (decide ((1 : Int) > 0))] rfl (by (try simp only [List.map_toArray, List.map_cons, List.map_nil]); first | done | rfl | (simp only [List.length_drop, List.length_take]; rfl) | (rw [extract_all]; rfl)) ?_; (with_reducible refine (scholiastref02_row.calls kj21 (a0.extract (1 : Int).toNat a0.size) 8 (decide ((1 : Int) > 0)) t182 true _ A30.out).mono ?_); rintro e w' ⟨rfl, ⟨nd, rfl⟩⟩; refine ⟨_, rfl, ?_⟩))
                                    go_ret3
                                    exact ⟨by first | rfl | (simp; done) | (simp [*]; done) | (simp [wrap64]; done) | (simp [isEmpty_bne]; done), by repeat (first | exact Drawn0.refl _ | apply Drawn0.step)⟩
                                  · replace c31 := Bool.eq_false_iff.mpr c31
                                    subst c31
                                    have H1 : (some (0, (⟨#[]⟩ : ByteArray), false)) = some (r1, r2, r3) := by rw [if_neg (show ¬ (false = true) by decide)] at H; exact H
                                    clear H
                                    have H := H1
                                    clear H1
                                    simp only [Option.some.injEq, Prod.mk.injEq] at H
                                    obtain ⟨rfl, rfl, rfl⟩ := H
                                    go_wp2_with (first | ((with_reducible refine gate_callee (f := 40) rfl ?_); refine goesL_ (some 37) rfl rfl Tryd.func40 (by kernel_rfl) rfl #[.string (a0.extract (1 : Int).toNat a0.size), .int .i64 8, .bool (decide ((1 : Int) > 0))] rfl (by (try simp only [List.map_toArray, List.map_cons, List.map_nil]); first | done | rfl | (simp only [List.length_drop, List.length_take]; rfl) | (rw [extract_all]; rfl)) ?_; (with_reducible refine (scholiastref02_row.calls kj21 (a0.extract (1 : Int).toNat a0.size) 8 (decide ((1 : Int) > 0)) t182 false _ A30.out).mono ?_); rintro e w' ⟨rfl, ⟨nd, rfl⟩⟩; refine ⟨_, rfl, ?_⟩))
                                    go_ret3
                                    exact ⟨by first | rfl | (simp; done) | (simp [*]; done) | (simp [wrap64]; done) | (simp [isEmpty_bne]; done), by repeat (first | exact Drawn0.refl _ | apply Drawn0.step)⟩
                                · rw [if_neg c29] at H
                                  exact absurd H (by simp)
                              · rw [if_neg c28] at H
                                exact absurd H (by simp)
          · rw [if_neg c8] at H
            exact absurd H (by simp)
        · replace c7 := Bool.eq_false_iff.mpr c7
          subst c7
          have H1 : (if 0 ≤ 0 then (if 0 ≤ (a0.size : Int) then ((scholiastref02_row.f kj2 (a0.extract (0 : Int).toNat a0.size) 10 (decide ((0 : Int) > 0))).bind fun bt184 => (if bt184.2 = true then (some (10, bt184.1, true)) else (some (0, (⟨#[]⟩ : ByteArray), false)))) else (none)) else (none)) = some (r1, r2, r3) := by rw [if_neg (show ¬ (false = true) by decide)] at H; exact H
          clear H
          have H := H1
          clear H1
          by_cases c32 : 0 ≤ 0
          · rw [if_pos c32] at H
            have c32b0 := eq_true c32
            have c32b1 : decide (0 ≤ 0) = true := decide_eq_true c32
            clear c32
            by_cases c33 : 0 ≤ (a0.size : Int)
            · rw [if_pos c33] at H
              have c33b0 := eq_true c33
              have c33b1 : decide (0 ≤ (a0.size : Int)) = true := decide_eq_true c33
              clear c33
              replace H := Option.bind_eq_some_iff.mp H
              obtain ⟨⟨t184, t185⟩, A340, H⟩ := H
              replace H : (if t185 = true then (some (10, t184, true)) else (some (0, (⟨#[]⟩ : ByteArray), false))) = some (r1, r2, r3) := H
              have A34 := Aside0.mk A340
              clear A340
              by_cases c35 : t185 = true
              · subst c35
                have H1 : (some (10, t184, true)) = some (r1, r2, r3) := by rw [if_pos rfl] at H; exact H
                clear H
                have H := H1
                clear H1
                simp only [Option.some.injEq, Prod.mk.injEq] at H
                obtain ⟨rfl, rfl, rfl⟩ := H
                go_wp2_with (first | ((with_reducible refine gate_callee (f := 40) rfl ?_); refine goesL_ (some 37) rfl rfl Tryd.func40 (by kernel_rfl) rfl #[.string (a0.extract (0 : Int).toNat a0.size), .int .i64 10, .bool (decide ((0 : Int) > 0))] rfl (by (try simp only [List.map_toArray, List.map_cons, List.map_nil]); first | done | rfl | (simp only [List.length_drop, List.length_take]; rfl) | (rw [extract_all]; rfl)) ?_; (with_reducible refine (scholiastref02_row.calls kj2 (a0.extract (0 : Int).toNat a0.size) 10 (decide ((0 : Int) > 0)) t184 true _ A34.out).mono ?_); rintro e w' ⟨rfl, ⟨nd, rfl⟩⟩; refine ⟨_, rfl, ?_⟩))
                go_ret3
                exact ⟨by first | rfl | (simp; done) | (simp [*]; done) | (simp [wrap64]; done) | (simp [isEmpty_bne]; done), by repeat (first | exact Drawn0.refl _ | apply Drawn0.step)⟩
              · replace c35 := Bool.eq_false_iff.mpr c35
                subst c35
                have H1 : (some (0, (⟨#[]⟩ : ByteArray), false)) = some (r1, r2, r3) := by rw [if_neg (show ¬ (false = true) by decide)] at H; exact H
                clear H
                have H := H1
                clear H1
                simp only [Option.some.injEq, Prod.mk.injEq] at H
                obtain ⟨rfl, rfl, rfl⟩ := H
                go_wp2_with (first | ((with_reducible refine gate_callee (f := 40) rfl ?_); refine goesL_ (some 37) rfl rfl Tryd.func40 (by kernel_rfl) rfl #[.string (a0.extract (0 : Int).toNat a0.size), .int .i64 10, .bool (decide ((0 : Int) > 0))] rfl (by (try simp only [List.map_toArray, List.map_cons, List.map_nil]); first | done | rfl | (simp only [List.length_drop, List.length_take]; rfl) | (rw [extract_all]; rfl)) ?_; (with_reducible refine (scholiastref02_row.calls kj2 (a0.extract (0 : Int).toNat a0.size) 10 (decide ((0 : Int) > 0)) t184 false _ A34.out).mono ?_); rintro e w' ⟨rfl, ⟨nd, rfl⟩⟩; refine ⟨_, rfl, ?_⟩))
                go_ret3
                exact ⟨by first | rfl | (simp; done) | (simp [*]; done) | (simp [wrap64]; done) | (simp [isEmpty_bne]; done), by repeat (first | exact Drawn0.refl _ | apply Drawn0.step)⟩
            · rw [if_neg c33] at H
              exact absurd H (by simp)
          · rw [if_neg c32] at H
            exact absurd H (by simp)

end Go.Proofs.YtkpceagbjodbbaaDoor.PA
