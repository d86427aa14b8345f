-- Printed by a program of this session (wip/xprint.py) for this claim: Lean checks it.
import Derived.Test.YtkpceagbjodbbaaDoorPA0
import Derived.Test.YtkpceagbjodbbaaDoorPA1
import Derived.Test.YtkpceagbjodbbaaDoorPA4
namespace Go.Proofs.YtkpceagbjodbbaaDoor.PA
open Go.RowKit Go.Proofs.YtkpceagbjodbbaaDoor.Ext Go.Proofs.YtkpceagbjodbbaaDoorW.PrintWords Go.Proofs.YtkpceagbjodbbaaDoorW.PrintLast Go.Proofs.YtkpceagbjodbbaaDoorW.PrintMore
attribute [local go_sem] max2_int min2_int max_two min_two max_three min_three max_four min_four   -- for this text's walks alone
set_option linter.unusedVariables false
set_option linter.unusedSimpArgs false

/-! ### token_Digits: function 15 -/
mutual
def token_Digits.j0 : Nat → ByteArray → Int → ByteArray → Bool → Option (Int × ByteArray × Bool)
  | 0, _, _, _, _ => none
  | k + 1, x0, x5, x6, x16 => if x16 = true then (if 1 ≤ (x0.size : Int) then (if 1 < (x0.size : Int) then (if (bt x0 1) = 98 then (token_Digits.j1 k x0 8 (x0.extract 1 x0.size) (bt x0 1) ((bt x0 1) == 98)) else (token_Digits.j1 k x0 8 (x0.extract 1 x0.size) (bt x0 1) ((bt x0 1) == 66))) else (none)) else (none)) else (token_Digits.j3 k x5 x6)
def token_Digits.j3 : Nat → Int → ByteArray → Option (Int × ByteArray × Bool)
  | 0, _, _ => none
  | k + 1, x5, x6 => if x6.toList = ([] : List UInt8) then (token_Digits.j4 k x5 x6 true) else (if 0 < (x6.size : Int) then (if (bt x6 0) = 95 then (token_Digits.j4 k x5 x6 true) else (if 0 ≤ (wrap64 ((x6.size : Int) - 1)) then (if (wrap64 ((x6.size : Int) - 1)) < (x6.size : Int) then (if (bt x6 (wrap64 ((x6.size : Int) - 1))) = 95 then (token_Digits.j4 k x5 x6 true) else ((strings_Contains.f x6 (⟨#[95, 95]⟩ : ByteArray)).bind fun t121 => (token_Digits.j4 k x5 x6 t121))) else (none)) else (none))) else (none))
def token_Digits.j4 : Nat → Int → ByteArray → Bool → Option (Int × ByteArray × Bool)
  | 0, _, _, _ => none
  | k + 1, x5, x6, x56 => if x56 = true then (some (0, (⟨#[]⟩ : ByteArray), false)) else ((strings_ReplaceAll.f x6 (⟨#[95]⟩ : ByteArray) (⟨#[]⟩ : ByteArray)).bind fun t122 => (token_Digits.l0 k x5 t122 (t122.size : Int) 0))
def token_Digits.l0 : Nat → Int → ByteArray → Int → Int → Option (Int × ByteArray × Bool)
  | 0, _, _, _, _ => none
  | k + 1, x5, x6, x60, x61 => if x61 < x60 then (if 0 ≤ x61 then (if x61 < (x6.size : Int) then ((token_digit.f k (bt x6 x61)).bind fun t123 => (if t123 ≥ x5 then (some (0, (⟨#[]⟩ : ByteArray), false)) else (token_Digits.l0 k x5 x6 x60 (wrap64 (x61 + 1))))) else (none)) else (none)) else (some (x5, x6, true))
def token_Digits.j1 : Nat → ByteArray → Int → ByteArray → Int → Bool → Option (Int × ByteArray × Bool)
  | 0, _, _, _, _, _ => none
  | k + 1, x0, x5, x6, x20, x21 => if x21 = true then (if 2 ≤ (x0.size : Int) then ((strings_TrimPrefix.f (x0.extract 2 x0.size) (⟨#[95]⟩ : ByteArray)).bind fun t116 => (token_Digits.j3 k 2 t116)) else (none)) else (if x20 = 111 then (token_Digits.j2 k x0 x5 x6 x20 (x20 == 111)) else (token_Digits.j2 k x0 x5 x6 x20 (x20 == 79)))
def token_Digits.j2 : Nat → ByteArray → Int → ByteArray → Int → Bool → Option (Int × ByteArray × Bool)
  | 0, _, _, _, _, _ => none
  | k + 1, x0, x5, x6, x20, x26 => if x26 = true then (if 2 ≤ (x0.size : Int) then ((strings_TrimPrefix.f (x0.extract 2 x0.size) (⟨#[95]⟩ : ByteArray)).bind fun t117 => (token_Digits.j3 k x5 t117)) else (none)) else (if x20 = 120 then (if 2 ≤ (x0.size : Int) then ((strings_TrimPrefix.f (x0.extract 2 x0.size) (⟨#[95]⟩ : ByteArray)).bind fun t118 => (token_Digits.j3 k 16 t118)) else (none)) else (if x20 = 88 then (if 2 ≤ (x0.size : Int) then ((strings_TrimPrefix.f (x0.extract 2 x0.size) (⟨#[95]⟩ : ByteArray)).bind fun t119 => (token_Digits.j3 k 16 t119)) else (none)) else ((strings_TrimPrefix.f x6 (⟨#[95]⟩ : ByteArray)).bind fun t120 => (token_Digits.j3 k x5 t120))))
end
def token_Digits.f (k : Nat) (a0 : ByteArray) : Option (Int × ByteArray × Bool) := if (a0.size : Int) > 1 then (if 0 < (a0.size : Int) then (token_Digits.j0 k a0 10 a0 ((bt a0 0) == 48)) else (none)) else (token_Digits.j0 k a0 10 a0 false)
theorem token_Digits.mono_l : ∀ k, (∀ y0 y1 y2 y3, LeO (token_Digits.j0 k y0 y1 y2 y3) (token_Digits.j0 (k + 1) y0 y1 y2 y3)) ∧ (∀ y0 y1, LeO (token_Digits.j3 k y0 y1) (token_Digits.j3 (k + 1) y0 y1)) ∧ (∀ y0 y1 y2, LeO (token_Digits.j4 k y0 y1 y2) (token_Digits.j4 (k + 1) y0 y1 y2)) ∧ (∀ y0 y1 y2 y3, LeO (token_Digits.l0 k y0 y1 y2 y3) (token_Digits.l0 (k + 1) y0 y1 y2 y3)) ∧ (∀ y0 y1 y2 y3 y4, LeO (token_Digits.j1 k y0 y1 y2 y3 y4) (token_Digits.j1 (k + 1) y0 y1 y2 y3 y4)) ∧ (∀ y0 y1 y2 y3 y4, LeO (token_Digits.j2 k y0 y1 y2 y3 y4) (token_Digits.j2 (k + 1) y0 y1 y2 y3 y4))
  | 0 => ⟨fun _ _ _ _ r h => by simp [token_Digits.j0] at h, fun _ _ r h => by simp [token_Digits.j3] at h, fun _ _ _ r h => by simp [token_Digits.j4] at h, fun _ _ _ _ r h => by simp [token_Digits.l0] at h, fun _ _ _ _ _ r h => by simp [token_Digits.j1] at h, fun _ _ _ _ _ r h => by simp [token_Digits.j2] at h⟩
  | k + 1 => by
    obtain ⟨ih0, ih1, ih2, ih3, ih4, ih5⟩ := token_Digits.mono_l k
    refine ⟨?_, ?_, ?_, ?_, ?_, ?_⟩
    · intro y0 y1 y2 y3
      unfold token_Digits.j0
      repeat' first
      | (with_reducible exact ih0 _ _ _ _)
      | (with_reducible exact ih1 _ _)
      | (with_reducible exact ih2 _ _ _)
      | (with_reducible exact ih3 _ _ _ _)
      | (with_reducible exact ih4 _ _ _ _ _)
      | (with_reducible exact ih5 _ _ _ _ _)
      | (with_reducible exact token_digit.mono _ _)
      | (with_reducible exact LeO.refl _)
      | (with_reducible exact LeO.none _)
      | (with_reducible refine LeO.ite ?_ ?_)
      | (with_reducible refine LeO.bind ?_ (fun _ => ?_))
      | exact ih0 _ _ _ _
      | exact ih1 _ _
      | exact ih2 _ _ _
      | exact ih3 _ _ _ _
      | exact ih4 _ _ _ _ _
      | exact ih5 _ _ _ _ _
      | exact token_digit.mono _ _
      | exact LeO.none _
      | refine LeO.ite ?_ ?_
      | refine LeO.bind ?_ (fun _ => ?_)
    · intro y0 y1
      unfold token_Digits.j3
      repeat' first
      | (with_reducible exact ih0 _ _ _ _)
      | (with_reducible exact ih1 _ _)
      | (with_reducible exact ih2 _ _ _)
      | (with_reducible exact ih3 _ _ _ _)
      | (with_reducible exact ih4 _ _ _ _ _)
      | (with_reducible exact ih5 _ _ _ _ _)
      | (with_reducible exact token_digit.mono _ _)
      | (with_reducible exact LeO.refl _)
      | (with_reducible exact LeO.none _)
      | (with_reducible refine LeO.ite ?_ ?_)
      | (with_reducible refine LeO.bind ?_ (fun _ => ?_))
      | exact ih0 _ _ _ _
      | exact ih1 _ _
      | exact ih2 _ _ _
      | exact ih3 _ _ _ _
      | exact ih4 _ _ _ _ _
      | exact ih5 _ _ _ _ _
      | exact token_digit.mono _ _
      | exact LeO.none _
      | refine LeO.ite ?_ ?_
      | refine LeO.bind ?_ (fun _ => ?_)
    · intro y0 y1 y2
      unfold token_Digits.j4
      repeat' first
      | (with_reducible exact ih0 _ _ _ _)
      | (with_reducible exact ih1 _ _)
      | (with_reducible exact ih2 _ _ _)
      | (with_reducible exact ih3 _ _ _ _)
      | (with_reducible exact ih4 _ _ _ _ _)
      | (with_reducible exact ih5 _ _ _ _ _)
      | (with_reducible exact token_digit.mono _ _)
      | (with_reducible exact LeO.refl _)
      | (with_reducible exact LeO.none _)
      | (with_reducible refine LeO.ite ?_ ?_)
      | (with_reducible refine LeO.bind ?_ (fun _ => ?_))
      | exact ih0 _ _ _ _
      | exact ih1 _ _
      | exact ih2 _ _ _
      | exact ih3 _ _ _ _
      | exact ih4 _ _ _ _ _
      | exact ih5 _ _ _ _ _
      | exact token_digit.mono _ _
      | exact LeO.none _
      | refine LeO.ite ?_ ?_
      | refine LeO.bind ?_ (fun _ => ?_)
    · intro y0 y1 y2 y3
      unfold token_Digits.l0
      repeat' first
      | (with_reducible exact ih0 _ _ _ _)
      | (with_reducible exact ih1 _ _)
      | (with_reducible exact ih2 _ _ _)
      | (with_reducible exact ih3 _ _ _ _)
      | (with_reducible exact ih4 _ _ _ _ _)
      | (with_reducible exact ih5 _ _ _ _ _)
      | (with_reducible exact token_digit.mono _ _)
      | (with_reducible exact LeO.refl _)
      | (with_reducible exact LeO.none _)
      | (with_reducible refine LeO.ite ?_ ?_)
      | (with_reducible refine LeO.bind ?_ (fun _ => ?_))
      | exact ih0 _ _ _ _
      | exact ih1 _ _
      | exact ih2 _ _ _
      | exact ih3 _ _ _ _
      | exact ih4 _ _ _ _ _
      | exact ih5 _ _ _ _ _
      | exact token_digit.mono _ _
      | exact LeO.none _
      | refine LeO.ite ?_ ?_
      | refine LeO.bind ?_ (fun _ => ?_)
    · intro y0 y1 y2 y3 y4
      unfold token_Digits.j1
      repeat' first
      | (with_reducible exact ih0 _ _ _ _)
      | (with_reducible exact ih1 _ _)
      | (with_reducible exact ih2 _ _ _)
      | (with_reducible exact ih3 _ _ _ _)
      | (with_reducible exact ih4 _ _ _ _ _)
      | (with_reducible exact ih5 _ _ _ _ _)
      | (with_reducible exact token_digit.mono _ _)
      | (with_reducible exact LeO.refl _)
      | (with_reducible exact LeO.none _)
      | (with_reducible refine LeO.ite ?_ ?_)
      | (with_reducible refine LeO.bind ?_ (fun _ => ?_))
      | exact ih0 _ _ _ _
      | exact ih1 _ _
      | exact ih2 _ _ _
      | exact ih3 _ _ _ _
      | exact ih4 _ _ _ _ _
      | exact ih5 _ _ _ _ _
      | exact token_digit.mono _ _
      | exact LeO.none _
      | refine LeO.ite ?_ ?_
      | refine LeO.bind ?_ (fun _ => ?_)
    · intro y0 y1 y2 y3 y4
      unfold token_Digits.j2
      repeat' first
      | (with_reducible exact ih0 _ _ _ _)
      | (with_reducible exact ih1 _ _)
      | (with_reducible exact ih2 _ _ _)
      | (with_reducible exact ih3 _ _ _ _)
      | (with_reducible exact ih4 _ _ _ _ _)
      | (with_reducible exact ih5 _ _ _ _ _)
      | (with_reducible exact token_digit.mono _ _)
      | (with_reducible exact LeO.refl _)
      | (with_reducible exact LeO.none _)
      | (with_reducible refine LeO.ite ?_ ?_)
      | (with_reducible refine LeO.bind ?_ (fun _ => ?_))
      | exact ih0 _ _ _ _
      | exact ih1 _ _
      | exact ih2 _ _ _
      | exact ih3 _ _ _ _
      | exact ih4 _ _ _ _ _
      | exact ih5 _ _ _ _ _
      | exact token_digit.mono _ _
      | exact LeO.none _
      | refine LeO.ite ?_ ?_
      | refine LeO.bind ?_ (fun _ => ?_)
theorem token_Digits.mono : ∀ a0 k, LeO (token_Digits.f k a0) (token_Digits.f (k + 1) a0) := by
  intro a0 k
  obtain ⟨ih0, ih1, ih2, ih3, ih4, ih5⟩ := token_Digits.mono_l k
  unfold token_Digits.f
  repeat' first
      | (with_reducible exact ih0 _ _ _ _)
      | (with_reducible exact ih1 _ _)
      | (with_reducible exact ih2 _ _ _)
      | (with_reducible exact ih3 _ _ _ _)
      | (with_reducible exact ih4 _ _ _ _ _)
      | (with_reducible exact ih5 _ _ _ _ _)
      | (with_reducible exact token_digit.mono _ _)
      | (with_reducible exact LeO.refl _)
      | (with_reducible exact LeO.none _)
      | (with_reducible refine LeO.ite ?_ ?_)
      | (with_reducible refine LeO.bind ?_ (fun _ => ?_))
      | exact ih0 _ _ _ _
      | exact ih1 _ _
      | exact ih2 _ _ _
      | exact ih3 _ _ _ _
      | exact ih4 _ _ _ _ _
      | exact ih5 _ _ _ _ _
      | exact token_digit.mono _ _
      | exact LeO.none _
      | refine LeO.ite ?_ ?_
      | refine LeO.bind ?_ (fun _ => ?_)
set_option maxHeartbeats 8000000 in
set_option maxRecDepth 100000 in
theorem token_Digits.calls (k : Nat) (a0 : ByteArray) (r1 : Int) (r2 : ByteArray) (r3 : Bool) (w : World) (HT : Tabs w) (h : token_Digits.f k a0 = some (r1, r2, r3)) :
    Calls Tryd.prog 15 #[.string a0] w fun e w' => e = .returned (.tuple #[.int .i64 r1, .string r2, .bool r3]) ∧ Below w.heap.size w w' := by
  have HB := Aside0.mk (Below.refl w.heap.size w)
  have H : (if (a0.size : Int) > 1 then (if 0 < (a0.size : Int) then (token_Digits.j0 k a0 10 a0 ((bt a0 0) == 48)) else (none)) else (token_Digits.j0 k a0 10 a0 false)) = some (r1, r2, r3) := h
  clear h
  have HC2 := Aside0.mk H
  clear H
  go_enter Tryd.func15, Tryd.ntmps15
  go_upto_region 2 with (fail)
  repeat (go_quiet (fail); go_upto_region 2 with (fail))
  go_cut [16] (fun v16 wc => ∃ (kq : Nat) (x16_1 : Bool), v16 = .bool x16_1 ∧ Aside0 (token_Digits.j0 kq a0 10 a0 x16_1 = some (r1, r2, r3)) ∧ Aside0 (kq ≤ k) ∧ Aside0 (Below w.heap.size w wc))
  case first =>
    have H := HC2.out
    clear HC2
    by_cases c3 : (a0.size : Int) > 1
    · rw [if_pos c3] at H
      have c3b0 : decide (1 < (a0.size : Int)) = true := decide_eq_true c3
      have c3b1 : decide (1 < a0.size) = true := decide_eq_true (by omega)
      clear c3
      (first | rw [c3b0] | (simp only [i64_w, i32_w]; rw [c3b0]) | skip)
      by_cases c4 : 0 < (a0.size : Int)
      · rw [if_pos c4] at H
        have c4b0 : decide (0 < (a0.size : Int)) = true := decide_eq_true c4
        have c4b1 : decide (0 < a0.size) = true := decide_eq_true (by omega)
        clear c4
        have H' := Aside0.mk H
        clear H
        have p5 : 0 ≤ (0 : Int) := (by omega)
        have q5 : 0 < a0.size := (by have : (0 : Int) < (a0.size : Int) := of_decide_eq_true (by first | (with_reducible assumption) | assumption); omega)
        have hx5 : ∀ h : 0 < a0.size, ((a0[0]'h).toNat : Int) = bt a0 0 := bt_at a0 0
        clear p5
        have qi5 : (0 < (a0.size : Int)) = True := eq_true (of_decide_eq_true (by first | (with_reducible assumption) | assumption))
        replace q5 := eq_true q5
        go_wp2
        repeat (go_quiet (fail); try go_wp2)
        go_meet
        case rel => exact ⟨_, (((bt a0 0) == 48)), (by first | rfl | (simp; done) | (simp [*]; done) | (simp [wrap64]; done) | (simp [isEmpty_bne]; done)), H', ⟨by first | omega | exact Nat.le_refl _⟩, ⟨by repeat (first | (with_reducible first | exact HB.out | apply below_alloc | apply pw_below_drewN | apply below_drew1) | exact HB.out)⟩⟩
      · rw [if_neg c4] at H
        exact absurd H (by simp)
    · rw [if_neg c3] at H
      have c3b0 : decide (1 < (a0.size : Int)) = false := decide_eq_false c3
      have c3b1 : decide (1 < a0.size) = false := decide_eq_false (by omega)
      clear c3
      (first | rw [c3b0] | (simp only [i64_w, i32_w]; rw [c3b0]) | skip)
      have H' := Aside0.mk H
      clear H
      go_wp2
      repeat (go_quiet (fail); try go_wp2)
      go_meet
      case rel => exact ⟨_, (false), (by first | rfl | (simp; done) | (simp [*]; done) | (simp [wrap64]; done) | (simp [isEmpty_bne]; done)), H', ⟨by first | omega | exact Nat.le_refl _⟩, ⟨by repeat (first | (with_reducible first | exact HB.out | apply below_alloc | apply pw_below_drewN | apply below_drew1) | exact HB.out)⟩⟩
  case rest =>
    clear HC2
    try clear c1
    try clear p2
    try clear c3
    try clear c3b0
    try clear c3b1
    try clear c4
    try clear c4b0
    try clear c4b1
    try clear p5
    try clear q5
    try clear hx5
    try clear qi5
    try clear p5
    try clear q5
    obtain ⟨kq, x16_1, rfl, HA, HJ1, HB⟩ := hcut
    cases kq with
    | zero => exact absurd HA.out (by simp [token_Digits.j0])
    | succ kj1 =>
      have H := HA.out
      clear HA
      simp only [token_Digits.j0] at H
      have HC6 := Aside0.mk H
      clear H
      go_upto_if 16 with (fail)
      repeat (go_quiet (fail); go_upto_if 16 with (fail))
      go_cut [5, 6] (fun v5 v6 wc => ∃ (kq : Nat) (x5_5 : Int) (x6_5 : ByteArray), v5 = .int .i64 x5_5 ∧ v6 = .string x6_5 ∧ Aside0 (token_Digits.j3 kq x5_5 x6_5 = some (r1, r2, r3)) ∧ Aside0 (kq ≤ kj1) ∧ Aside0 (Below w.heap.size w wc))
      case first =>
        have H := HC6.out
        clear HC6
        by_cases c7 : x16_1 = true
        · subst c7
          have H1 : (if 1 ≤ (a0.size : Int) then (if 1 < (a0.size : Int) then (if (bt a0 1) = 98 then (token_Digits.j1 kj1 a0 8 (a0.extract 1 a0.size) (bt a0 1) ((bt a0 1) == 98)) else (token_Digits.j1 kj1 a0 8 (a0.extract 1 a0.size) (bt a0 1) ((bt a0 1) == 66))) else (none)) else (none)) = some (r1, r2, r3) := by rw [if_pos rfl] at H; exact H
          clear H
          have H := H1
          clear H1
          by_cases c8 : 1 ≤ (a0.size : Int)
          · rw [if_pos c8] at H
            have c8b0 := eq_true c8
            have c8b1 : decide (1 ≤ (a0.size : Int)) = true := decide_eq_true c8
            clear c8
            by_cases c9 : 1 < (a0.size : Int)
            · rw [if_pos c9] at H
              have c9b0 : decide (1 < (a0.size : Int)) = true := decide_eq_true c9
              have c9b1 : decide (1 < a0.size) = true := decide_eq_true (by omega)
              clear c9
              (first | rw [c9b0] | (simp only [i64_w, i32_w]; rw [c9b0]) | skip)
              have HC11 := Aside0.mk H
              clear H
              have p10 : 0 ≤ (1 : Int) := (by omega)
              have q10 : 1 < a0.size := (by have : (1 : Int) < (a0.size : Int) := of_decide_eq_true (by first | (with_reducible assumption) | assumption); omega)
              have hx10 : ∀ h : 1 < a0.size, ((a0[1]'h).toNat : Int) = bt a0 1 := bt_at a0 1
              clear p10
              have qi10 : (1 < (a0.size : Int)) = True := eq_true (of_decide_eq_true (by first | (with_reducible assumption) | assumption))
              replace q10 := eq_true q10
              go_upto_if 21 with (fail)
              repeat (go_quiet (fail); go_upto_if 21 with (fail))
              go_cut [21] (fun v21 wc => ∃ (kq : Nat) (x21_10 : Bool), v21 = .bool x21_10 ∧ Aside0 (token_Digits.j1 kq a0 8 (a0.extract 1 a0.size) (bt a0 1) x21_10 = some (r1, r2, r3)) ∧ Aside0 (kq ≤ kj1) ∧ Aside0 (Below w.heap.size w wc))
              case first =>
                have H := HC11.out
                clear HC11
                by_cases c12 : (bt a0 1) = 98
                · rw [if_pos c12] at H
                  have c12b0 : ((bt a0 1) == 98) = true := beq_iff_eq.mpr c12
                  have c12b1 : ((bt a0 1) != 98) = false := bne_eq_false_iff_eq.mpr c12
                  clear c12
                  (first | rw [c12b0] | (simp only [i64_w, i32_w]; rw [c12b0]) | skip)
                  have H' := Aside0.mk H
                  clear H
                  go_wp2
                  repeat (go_quiet (fail); try go_wp2)
                  go_meet
                  case rel => exact ⟨_, (((bt a0 1) == 98)), (by first | rfl | (simp; done) | (simp [*]; done) | (simp [wrap64]; done) | (simp [isEmpty_bne]; done)), H', ⟨by have := HJ1.out; first | omega | exact Nat.le_refl _⟩, ⟨by repeat (first | (with_reducible first | exact HB.out | apply below_alloc | apply pw_below_drewN | apply below_drew1) | exact HB.out)⟩⟩
                · rw [if_neg c12] at H
                  have c12b0 : ((bt a0 1) == 98) = false := beq_eq_false_iff_ne.mpr c12
                  have c12b1 : ((bt a0 1) != 98) = true := bne_iff_ne.mpr c12
                  (first | rw [c12b0] | (simp only [i64_w, i32_w]; rw [c12b0]) | skip)
                  have H' := Aside0.mk H
                  clear H
                  go_wp2
                  repeat (go_quiet (fail); try go_wp2)
                  go_meet
                  case rel => exact ⟨_, (((bt a0 1) == 66)), (by first | rfl | (simp; done) | (simp [*]; done) | (simp [wrap64]; done) | (simp [isEmpty_bne]; done)), H', ⟨by have := HJ1.out; first | omega | exact Nat.le_refl _⟩, ⟨by repeat (first | (with_reducible first | exact HB.out | apply below_alloc | apply pw_below_drewN | apply below_drew1) | exact HB.out)⟩⟩
              case rest =>
                clear HC11
                try clear c1
                try clear p1
                try clear q1
                try clear hx1
                try clear qi1
                try clear p2
                try clear c3
                try clear c3b0
                try clear c3b1
                try clear c4
                try clear c4b0
                try clear c4b1
                try clear p5
                try clear q5
                try clear hx5
                try clear qi5
                try clear p6
                try clear c7
                try clear c8
                try clear c8b0
                try clear c8b1
                try clear c9
                try clear c9b0
                try clear c9b1
                try clear p10
                try clear q10
                try clear hx10
                try clear qi10
                try clear c12
                try clear c12b0
                try clear c12b1
                try clear p10
                try clear p2
                try clear p5
                try clear q10
                try clear q5
                obtain ⟨kq, x21_10, rfl, HA, HJ10, HB⟩ := hcut
                cases kq with
                | zero => exact absurd HA.out (by simp [token_Digits.j1])
                | succ kj10 =>
                  have H := HA.out
                  clear HA
                  simp only [token_Digits.j1] at H
                  by_cases c13 : x21_10 = true
                  · subst c13
                    have H1 : (if 2 ≤ (a0.size : Int) then ((strings_TrimPrefix.f (a0.extract 2 a0.size) (⟨#[95]⟩ : ByteArray)).bind fun t116 => (token_Digits.j3 kj10 2 t116)) else (none)) = some (r1, r2, r3) := by rw [if_pos rfl] at H; exact H
                    clear H
                    have H := H1
                    clear H1
                    by_cases c14 : 2 ≤ (a0.size : Int)
                    · rw [if_pos c14] at H
                      have c14b0 := eq_true c14
                      have c14b1 : decide (2 ≤ (a0.size : Int)) = true := decide_eq_true c14
                      clear c14
                      replace H := Option.bind_eq_some_iff.mp H
                      obtain ⟨t116, A150, H⟩ := H
                      replace H : (token_Digits.j3 kj10 2 t116) = some (r1, r2, r3) := H
                      have A15 := Aside0.mk A150
                      clear A150
                      have H' := Aside0.mk H
                      clear H
                      go_wp2_with (first | (go_at_call 36; (with_reducible refine (strings_TrimPrefix.calls (a0.extract 2 a0.size) (⟨#[95]⟩ : ByteArray) t116 _ A15.out).mono ?_); rintro e w' ⟨rfl, ⟨nd, rfl⟩⟩; (try first | exact ⟨rfl, _, World.drewN_drewN _ _ _⟩ | exact ⟨rfl, _, Eq.trans (World.drewN_drewN _ _ _) (congrArg (World.drewN _) (Nat.add_assoc _ _ _))⟩)))
                      repeat (go_quiet (first | (go_at_call 36; (with_reducible refine (strings_TrimPrefix.calls (a0.extract 2 a0.size) (⟨#[95]⟩ : ByteArray) t116 _ A15.out).mono ?_); rintro e w' ⟨rfl, ⟨nd, rfl⟩⟩; (try first | exact ⟨rfl, _, World.drewN_drewN _ _ _⟩ | exact ⟨rfl, _, Eq.trans (World.drewN_drewN _ _ _) (congrArg (World.drewN _) (Nat.add_assoc _ _ _))⟩))); try go_wp2_with (first | (go_at_call 36; (with_reducible refine (strings_TrimPrefix.calls (a0.extract 2 a0.size) (⟨#[95]⟩ : ByteArray) t116 _ A15.out).mono ?_); rintro e w' ⟨rfl, ⟨nd, rfl⟩⟩; (try first | exact ⟨rfl, _, World.drewN_drewN _ _ _⟩ | exact ⟨rfl, _, Eq.trans (World.drewN_drewN _ _ _) (congrArg (World.drewN _) (Nat.add_assoc _ _ _))⟩))))
                      go_meet
                      case rel => exact ⟨_, (2), (t116), (by first | rfl | (simp; done) | (simp [*]; done) | (simp [wrap64]; done) | (simp [isEmpty_bne]; done)), (by first | rfl | (simp; done) | (simp [*]; done) | (simp [wrap64]; done) | (simp [isEmpty_bne]; done)), H', ⟨by have := HJ1.out; have := HJ10.out; first | omega | exact Nat.le_refl _⟩, ⟨by repeat (first | (with_reducible first | exact HB.out | apply below_alloc | apply pw_below_drewN | apply below_drew1) | exact HB.out)⟩⟩
                    · rw [if_neg c14] at H
                      exact absurd H (by simp)
                  · replace c13 := Bool.eq_false_iff.mpr c13
                    subst c13
                    have H1 : (if (bt a0 1) = 111 then (token_Digits.j2 kj10 a0 8 (a0.extract 1 a0.size) (bt a0 1) ((bt a0 1) == 111)) else (token_Digits.j2 kj10 a0 8 (a0.extract 1 a0.size) (bt a0 1) ((bt a0 1) == 79))) = some (r1, r2, r3) := by rw [if_neg (show ¬ (false = true) by decide)] at H; exact H
                    clear H
                    have H := H1
                    clear H1
                    have HC16 := Aside0.mk H
                    clear H
                    go_upto_if 26 with (fail)
                    repeat (go_quiet (fail); go_upto_if 26 with (fail))
                    go_cut [26] (fun v26 wc => ∃ (kq : Nat) (x26_15 : Bool), v26 = .bool x26_15 ∧ Aside0 (token_Digits.j2 kq a0 8 (a0.extract 1 a0.size) (bt a0 1) x26_15 = some (r1, r2, r3)) ∧ Aside0 (kq ≤ kj10) ∧ Aside0 (Below w.heap.size w wc))
                    case first =>
                      have H := HC16.out
                      clear HC16
                      by_cases c17 : (bt a0 1) = 111
                      · rw [if_pos c17] at H
                        have c17b0 : ((bt a0 1) == 111) = true := beq_iff_eq.mpr c17
                        have c17b1 : ((bt a0 1) != 111) = false := bne_eq_false_iff_eq.mpr c17
                        clear c17
                        (first | rw [c17b0] | (simp only [i64_w, i32_w]; rw [c17b0]) | skip)
                        have H' := Aside0.mk H
                        clear H
                        go_wp2
                        repeat (go_quiet (fail); try go_wp2)
                        go_meet
                        case rel => exact ⟨_, (((bt a0 1) == 111)), (by first | rfl | (simp; done) | (simp [*]; done) | (simp [wrap64]; done) | (simp [isEmpty_bne]; done)), H', ⟨by have := HJ1.out; have := HJ10.out; first | omega | exact Nat.le_refl _⟩, ⟨by repeat (first | (with_reducible first | exact HB.out | apply below_alloc | apply pw_below_drewN | apply below_drew1) | exact HB.out)⟩⟩
                      · rw [if_neg c17] at H
                        have c17b0 : ((bt a0 1) == 111) = false := beq_eq_false_iff_ne.mpr c17
                        have c17b1 : ((bt a0 1) != 111) = true := bne_iff_ne.mpr c17
                        (first | rw [c17b0] | (simp only [i64_w, i32_w]; rw [c17b0]) | skip)
                        have H' := Aside0.mk H
                        clear H
                        go_wp2
                        repeat (go_quiet (fail); try go_wp2)
                        go_meet
                        case rel => exact ⟨_, (((bt a0 1) == 79)), (by first | rfl | (simp; done) | (simp [*]; done) | (simp [wrap64]; done) | (simp [isEmpty_bne]; done)), H', ⟨by have := HJ1.out; have := HJ10.out; first | omega | exact Nat.le_refl _⟩, ⟨by repeat (first | (with_reducible first | exact HB.out | apply below_alloc | apply pw_below_drewN | apply below_drew1) | exact HB.out)⟩⟩
                    case rest =>
                      clear HC16
                      try clear c1
                      try clear p1
                      try clear q1
                      try clear hx1
                      try clear qi1
                      try clear p2
                      try clear c3
                      try clear c3b0
                      try clear c3b1
                      try clear c4
                      try clear c4b0
                      try clear c4b1
                      try clear p5
                      try clear q5
                      try clear hx5
                      try clear qi5
                      try clear p6
                      try clear c7
                      try clear c8
                      try clear c8b0
                      try clear c8b1
                      try clear c9
                      try clear c9b0
                      try clear c9b1
                      try clear p10
                      try clear q10
                      try clear hx10
                      try clear qi10
                      try clear c12
                      try clear c12b0
                      try clear c12b1
                      try clear c13
                      try clear c14
                      try clear c14b0
                      try clear c14b1
                      try clear c15
                      try clear c17
                      try clear c17b0
                      try clear c17b1
                      try clear p1
                      try clear p10
                      try clear p2
                      try clear p5
                      try clear p6
                      try clear q1
                      try clear q10
                      try clear q5
                      obtain ⟨kq, x26_15, rfl, HA, HJ15, HB⟩ := hcut
                      cases kq with
                      | zero => exact absurd HA.out (by simp [token_Digits.j2])
                      | succ kj15 =>
                        have H := HA.out
                        clear HA
                        simp only [token_Digits.j2] at H
                        by_cases c18 : x26_15 = true
                        · subst c18
                          have H1 : (if 2 ≤ (a0.size : Int) then ((strings_TrimPrefix.f (a0.extract 2 a0.size) (⟨#[95]⟩ : ByteArray)).bind fun t117 => (token_Digits.j3 kj15 8 t117)) else (none)) = some (r1, r2, r3) := by rw [if_pos rfl] at H; exact H
                          clear H
                          have H := H1
                          clear H1
                          by_cases c19 : 2 ≤ (a0.size : Int)
                          · rw [if_pos c19] at H
                            have c19b0 := eq_true c19
                            have c19b1 : decide (2 ≤ (a0.size : Int)) = true := decide_eq_true c19
                            clear c19
                            replace H := Option.bind_eq_some_iff.mp H
                            obtain ⟨t117, A200, H⟩ := H
                            replace H : (token_Digits.j3 kj15 8 t117) = some (r1, r2, r3) := H
                            have A20 := Aside0.mk A200
                            clear A200
                            have H' := Aside0.mk H
                            clear H
                            go_wp2_with (first | (go_at_call 36; (with_reducible refine (strings_TrimPrefix.calls (a0.extract 2 a0.size) (⟨#[95]⟩ : ByteArray) t117 _ A20.out).mono ?_); rintro e w' ⟨rfl, ⟨nd, rfl⟩⟩; (try first | exact ⟨rfl, _, World.drewN_drewN _ _ _⟩ | exact ⟨rfl, _, Eq.trans (World.drewN_drewN _ _ _) (congrArg (World.drewN _) (Nat.add_assoc _ _ _))⟩)))
                            repeat (go_quiet (first | (go_at_call 36; (with_reducible refine (strings_TrimPrefix.calls (a0.extract 2 a0.size) (⟨#[95]⟩ : ByteArray) t117 _ A20.out).mono ?_); rintro e w' ⟨rfl, ⟨nd, rfl⟩⟩; (try first | exact ⟨rfl, _, World.drewN_drewN _ _ _⟩ | exact ⟨rfl, _, Eq.trans (World.drewN_drewN _ _ _) (congrArg (World.drewN _) (Nat.add_assoc _ _ _))⟩))); try go_wp2_with (first | (go_at_call 36; (with_reducible refine (strings_TrimPrefix.calls (a0.extract 2 a0.size) (⟨#[95]⟩ : ByteArray) t117 _ A20.out).mono ?_); rintro e w' ⟨rfl, ⟨nd, rfl⟩⟩; (try first | exact ⟨rfl, _, World.drewN_drewN _ _ _⟩ | exact ⟨rfl, _, Eq.trans (World.drewN_drewN _ _ _) (congrArg (World.drewN _) (Nat.add_assoc _ _ _))⟩))))
                            go_meet
                            case rel => exact ⟨_, (8), (t117), (by first | rfl | (simp; done) | (simp [*]; done) | (simp [wrap64]; done) | (simp [isEmpty_bne]; done)), (by first | rfl | (simp; done) | (simp [*]; done) | (simp [wrap64]; done) | (simp [isEmpty_bne]; done)), H', ⟨by have := HJ1.out; have := HJ10.out; have := HJ15.out; first | omega | exact Nat.le_refl _⟩, ⟨by repeat (first | (with_reducible first | exact HB.out | apply below_alloc | apply pw_below_drewN | apply below_drew1) | exact HB.out)⟩⟩
                          · rw [if_neg c19] at H
                            exact absurd H (by simp)
                        · replace c18 := Bool.eq_false_iff.mpr c18
                          subst c18
                          have H1 : (if (bt a0 1) = 120 then (if 2 ≤ (a0.size : Int) then ((strings_TrimPrefix.f (a0.extract 2 a0.size) (⟨#[95]⟩ : ByteArray)).bind fun t118 => (token_Digits.j3 kj15 16 t118)) else (none)) else (if (bt a0 1) = 88 then (if 2 ≤ (a0.size : Int) then ((strings_TrimPrefix.f (a0.extract 2 a0.size) (⟨#[95]⟩ : ByteArray)).bind fun t119 => (token_Digits.j3 kj15 16 t119)) else (none)) else ((strings_TrimPrefix.f (a0.extract 1 a0.size) (⟨#[95]⟩ : ByteArray)).bind fun t120 => (token_Digits.j3 kj15 8 t120)))) = some (r1, r2, r3) := by rw [if_neg (show ¬ (false = true) by decide)] at H; exact H
                          clear H
                          have H := H1
                          clear H1
                          by_cases c21 : (bt a0 1) = 120
                          · rw [if_pos c21] at H
                            have c21b0 : ((bt a0 1) == 120) = true := beq_iff_eq.mpr c21
                            have c21b1 : ((bt a0 1) != 120) = false := bne_eq_false_iff_eq.mpr c21
                            clear c21
                            by_cases c22 : 2 ≤ (a0.size : Int)
                            · rw [if_pos c22] at H
                              have c22b0 := eq_true c22
                              have c22b1 : decide (2 ≤ (a0.size : Int)) = true := decide_eq_true c22
                              clear c22
                              replace H := Option.bind_eq_some_iff.mp H
                              obtain ⟨t118, A230, H⟩ := H
                              replace H : (token_Digits.j3 kj15 16 t118) = some (r1, r2, r3) := H
                              have A23 := Aside0.mk A230
                              clear A230
                              have H' := Aside0.mk H
                              clear H
                              go_wp2_with (first | (go_at_call 36; (with_reducible refine (strings_TrimPrefix.calls (a0.extract 2 a0.size) (⟨#[95]⟩ : ByteArray) t118 _ A23.out).mono ?_); rintro e w' ⟨rfl, ⟨nd, rfl⟩⟩; (try first | exact ⟨rfl, _, World.drewN_drewN _ _ _⟩ | exact ⟨rfl, _, Eq.trans (World.drewN_drewN _ _ _) (congrArg (World.drewN _) (Nat.add_assoc _ _ _))⟩)))
                              repeat (go_quiet (first | (go_at_call 36; (with_reducible refine (strings_TrimPrefix.calls (a0.extract 2 a0.size) (⟨#[95]⟩ : ByteArray) t118 _ A23.out).mono ?_); rintro e w' ⟨rfl, ⟨nd, rfl⟩⟩; (try first | exact ⟨rfl, _, World.drewN_drewN _ _ _⟩ | exact ⟨rfl, _, Eq.trans (World.drewN_drewN _ _ _) (congrArg (World.drewN _) (Nat.add_assoc _ _ _))⟩))); try go_wp2_with (first | (go_at_call 36; (with_reducible refine (strings_TrimPrefix.calls (a0.extract 2 a0.size) (⟨#[95]⟩ : ByteArray) t118 _ A23.out).mono ?_); rintro e w' ⟨rfl, ⟨nd, rfl⟩⟩; (try first | exact ⟨rfl, _, World.drewN_drewN _ _ _⟩ | exact ⟨rfl, _, Eq.trans (World.drewN_drewN _ _ _) (congrArg (World.drewN _) (Nat.add_assoc _ _ _))⟩))))
                              go_meet
                              case rel => exact ⟨_, (16), (t118), (by first | rfl | (simp; done) | (simp [*]; done) | (simp [wrap64]; done) | (simp [isEmpty_bne]; done)), (by first | rfl | (simp; done) | (simp [*]; done) | (simp [wrap64]; done) | (simp [isEmpty_bne]; done)), H', ⟨by have := HJ1.out; have := HJ10.out; have := HJ15.out; first | omega | exact Nat.le_refl _⟩, ⟨by repeat (first | (with_reducible first | exact HB.out | apply below_alloc | apply pw_below_drewN | apply below_drew1) | exact HB.out)⟩⟩
                            · rw [if_neg c22] at H
                              exact absurd H (by simp)
                          · rw [if_neg c21] at H
                            have c21b0 : ((bt a0 1) == 120) = false := beq_eq_false_iff_ne.mpr c21
                            have c21b1 : ((bt a0 1) != 120) = true := bne_iff_ne.mpr c21
                            by_cases c24 : (bt a0 1) = 88
                            · rw [if_pos c24] at H
                              have c24b0 : ((bt a0 1) == 88) = true := beq_iff_eq.mpr c24
                              have c24b1 : ((bt a0 1) != 88) = false := bne_eq_false_iff_eq.mpr c24
                              clear c24
                              by_cases c25 : 2 ≤ (a0.size : Int)
                              · rw [if_pos c25] at H
                                have c25b0 := eq_true c25
                                have c25b1 : decide (2 ≤ (a0.size : Int)) = true := decide_eq_true c25
                                clear c25
                                replace H := Option.bind_eq_some_iff.mp H
                                obtain ⟨t119, A260, H⟩ := H
                                replace H : (token_Digits.j3 kj15 16 t119) = some (r1, r2, r3) := H
                                have A26 := Aside0.mk A260
                                clear A260
                                have H' := Aside0.mk H
                                clear H
                                go_wp2_with (first | (go_at_call 36; (with_reducible refine (strings_TrimPrefix.calls (a0.extract 2 a0.size) (⟨#[95]⟩ : ByteArray) t119 _ A26.out).mono ?_); rintro e w' ⟨rfl, ⟨nd, rfl⟩⟩; (try first | exact ⟨rfl, _, World.drewN_drewN _ _ _⟩ | exact ⟨rfl, _, Eq.trans (World.drewN_drewN _ _ _) (congrArg (World.drewN _) (Nat.add_assoc _ _ _))⟩)))
                                repeat (go_quiet (first | (go_at_call 36; (with_reducible refine (strings_TrimPrefix.calls (a0.extract 2 a0.size) (⟨#[95]⟩ : ByteArray) t119 _ A26.out).mono ?_); rintro e w' ⟨rfl, ⟨nd, rfl⟩⟩; (try first | exact ⟨rfl, _, World.drewN_drewN _ _ _⟩ | exact ⟨rfl, _, Eq.trans (World.drewN_drewN _ _ _) (congrArg (World.drewN _) (Nat.add_assoc _ _ _))⟩))); try go_wp2_with (first | (go_at_call 36; (with_reducible refine (strings_TrimPrefix.calls (a0.extract 2 a0.size) (⟨#[95]⟩ : ByteArray) t119 _ A26.out).mono ?_); rintro e w' ⟨rfl, ⟨nd, rfl⟩⟩; (try first | exact ⟨rfl, _, World.drewN_drewN _ _ _⟩ | exact ⟨rfl, _, Eq.trans (World.drewN_drewN _ _ _) (congrArg (World.drewN _) (Nat.add_assoc _ _ _))⟩))))
                                go_meet
                                case rel => exact ⟨_, (16), (t119), (by first | rfl | (simp; done) | (simp [*]; done) | (simp [wrap64]; done) | (simp [isEmpty_bne]; done)), (by first | rfl | (simp; done) | (simp [*]; done) | (simp [wrap64]; done) | (simp [isEmpty_bne]; done)), H', ⟨by have := HJ1.out; have := HJ10.out; have := HJ15.out; first | omega | exact Nat.le_refl _⟩, ⟨by repeat (first | (with_reducible first | exact HB.out | apply below_alloc | apply pw_below_drewN | apply below_drew1) | exact HB.out)⟩⟩
                              · rw [if_neg c25] at H
                                exact absurd H (by simp)
                            · rw [if_neg c24] at H
                              have c24b0 : ((bt a0 1) == 88) = false := beq_eq_false_iff_ne.mpr c24
                              have c24b1 : ((bt a0 1) != 88) = true := bne_iff_ne.mpr c24
                              replace H := Option.bind_eq_some_iff.mp H
                              obtain ⟨t120, A270, H⟩ := H
                              replace H : (token_Digits.j3 kj15 8 t120) = some (r1, r2, r3) := H
                              have A27 := Aside0.mk A270
                              clear A270
                              have H' := Aside0.mk H
                              clear H
                              go_wp2_with (first | (go_at_call 36; (with_reducible refine (strings_TrimPrefix.calls (a0.extract 1 a0.size) (⟨#[95]⟩ : ByteArray) t120 _ A27.out).mono ?_); rintro e w' ⟨rfl, ⟨nd, rfl⟩⟩; (try first | exact ⟨rfl, _, World.drewN_drewN _ _ _⟩ | exact ⟨rfl, _, Eq.trans (World.drewN_drewN _ _ _) (congrArg (World.drewN _) (Nat.add_assoc _ _ _))⟩)))
                              repeat (go_quiet (first | (go_at_call 36; (with_reducible refine (strings_TrimPrefix.calls (a0.extract 1 a0.size) (⟨#[95]⟩ : ByteArray) t120 _ A27.out).mono ?_); rintro e w' ⟨rfl, ⟨nd, rfl⟩⟩; (try first | exact ⟨rfl, _, World.drewN_drewN _ _ _⟩ | exact ⟨rfl, _, Eq.trans (World.drewN_drewN _ _ _) (congrArg (World.drewN _) (Nat.add_assoc _ _ _))⟩))); try go_wp2_with (first | (go_at_call 36; (with_reducible refine (strings_TrimPrefix.calls (a0.extract 1 a0.size) (⟨#[95]⟩ : ByteArray) t120 _ A27.out).mono ?_); rintro e w' ⟨rfl, ⟨nd, rfl⟩⟩; (try first | exact ⟨rfl, _, World.drewN_drewN _ _ _⟩ | exact ⟨rfl, _, Eq.trans (World.drewN_drewN _ _ _) (congrArg (World.drewN _) (Nat.add_assoc _ _ _))⟩))))
                              go_meet
                              case rel => exact ⟨_, (8), (t120), (by first | rfl | (simp; done) | (simp [*]; done) | (simp [wrap64]; done) | (simp [isEmpty_bne]; done)), (by first | rfl | (simp; done) | (simp [*]; done) | (simp [wrap64]; done) | (simp [isEmpty_bne]; done)), H', ⟨by have := HJ1.out; have := HJ10.out; have := HJ15.out; first | omega | exact Nat.le_refl _⟩, ⟨by repeat (first | (with_reducible first | exact HB.out | apply below_alloc | apply pw_below_drewN | apply below_drew1) | exact HB.out)⟩⟩
            · rw [if_neg c9] at H
              exact absurd H (by simp)
          · rw [if_neg c8] at H
            exact absurd H (by simp)
        · replace c7 := Bool.eq_false_iff.mpr c7
          subst c7
          have H1 : (token_Digits.j3 kj1 10 a0) = some (r1, r2, r3) := by rw [if_neg (show ¬ (false = true) by decide)] at H; exact H
          clear H
          have H := H1
          clear H1
          have H' := Aside0.mk H
          clear H
          go_wp2
          repeat (go_quiet (fail); try go_wp2)
          go_meet
          case rel => exact ⟨_, (10), (a0), (by first | rfl | (simp; done) | (simp [*]; done) | (simp [wrap64]; done) | (simp [isEmpty_bne]; done)), (by first | rfl | (simp; done) | (simp [*]; done) | (simp [wrap64]; done) | (simp [isEmpty_bne]; done)), H', ⟨by have := HJ1.out; first | omega | exact Nat.le_refl _⟩, ⟨by repeat (first | (with_reducible first | exact HB.out | apply below_alloc | apply pw_below_drewN | apply below_drew1) | exact HB.out)⟩⟩
      case rest =>
        clear HC6
        try clear c1
        try clear p1
        try clear q1
        try clear hx1
        try clear qi1
        try clear c2
        try clear p2
        try clear c3
        try clear c3b0
        try clear c3b1
        try clear c4
        try clear c4b0
        try clear c4b1
        try clear p5
        try clear q5
        try clear hx5
        try clear qi5
        try clear p6
        try clear c7
        try clear c8
        try clear c8b0
        try clear c8b1
        try clear c9
        try clear c9b0
        try clear c9b1
        try clear p10
        try clear q10
        try clear hx10
        try clear qi10
        try clear c12
        try clear c12b0
        try clear c12b1
        try clear c13
        try clear c14
        try clear c14b0
        try clear c14b1
        try clear c15
        try clear c17
        try clear c17b0
        try clear c17b1
        try clear c18
        try clear c19
        try clear c19b0
        try clear c19b1
        try clear c21
        try clear c21b0
        try clear c21b1
        try clear c22
        try clear c22b0
        try clear c22b1
        try clear c24
        try clear c24b0
        try clear c24b1
        try clear c25
        try clear c25b0
        try clear c25b1
        try clear p1
        try clear p10
        try clear p2
        try clear p5
        try clear p6
        try clear q1
        try clear q10
        try clear q5
        obtain ⟨kq, x5_5, x6_5, rfl, rfl, HA, HJ5, HB⟩ := hcut
        cases kq with
        | zero => exact absurd HA.out (by simp [token_Digits.j3])
        | succ kj5 =>
          have H := HA.out
          clear HA
          simp only [token_Digits.j3] at H
          have HC28 := Aside0.mk H
          clear H
          go_upto_region 15 with (fail)
          repeat (go_quiet (fail); go_upto_region 15 with (fail))
          go_cut [56] (fun v56 wc => ∃ (kq : Nat) (x56_27 : Bool), v56 = .bool x56_27 ∧ Aside0 (token_Digits.j4 kq x5_5 x6_5 x56_27 = some (r1, r2, r3)) ∧ Aside0 (kq ≤ kj5) ∧ Aside0 (Below w.heap.size w wc))
          case first =>
            have H := HC28.out
            clear HC28
            by_cases c29 : x6_5.toList = ([] : List UInt8)
            · rw [if_pos c29] at H
              have c29b0 : (x6_5.toList == ([] : List UInt8)) = true := beq_iff_eq.mpr c29
              have c29b1 : (x6_5.toList != ([] : List UInt8)) = false := bne_eq_false_iff_eq.mpr c29
              (try (have c29b2 : x6_5.toList.isEmpty = true := by simpa using c29))
              (try (have c29b3 : ¬ ((!x6_5.toList.isEmpty) = true) := by simpa using c29))
              clear c29
              (first | rw [c29b0] | (simp only [i64_w, i32_w]; rw [c29b0]) | skip)
              have H' := Aside0.mk H
              clear H
              go_wp2
              repeat (go_quiet (fail); try go_wp2)
              go_meet
              case rel => exact ⟨_, (true), (by first | rfl | (simp; done) | (simp [*]; done) | (simp [wrap64]; done) | (simp [isEmpty_bne]; done)), H', ⟨by have := HJ1.out; have := HJ5.out; first | omega | exact Nat.le_refl _⟩, ⟨by repeat (first | (with_reducible first | exact HB.out | apply below_alloc | apply pw_below_drewN | apply below_drew1) | exact HB.out)⟩⟩
            · rw [if_neg c29] at H
              have c29b0 : (x6_5.toList == ([] : List UInt8)) = false := beq_eq_false_iff_ne.mpr c29
              have c29b1 : (x6_5.toList != ([] : List UInt8)) = true := bne_iff_ne.mpr c29
              (try (have c29b2 : x6_5.toList.isEmpty = false := by simpa using c29))
              (try (have c29b3 : ¬ ((!x6_5.toList.isEmpty) = false) := by simpa using c29))
              (first | rw [c29b0] | (simp only [i64_w, i32_w]; rw [c29b0]) | skip)
              by_cases c30 : 0 < (x6_5.size : Int)
              · rw [if_pos c30] at H
                have c30b0 : decide (0 < (x6_5.size : Int)) = true := decide_eq_true c30
                have c30b1 : decide (0 < x6_5.size) = true := decide_eq_true (by omega)
                clear c30
                by_cases c32 : (bt x6_5 0) = 95
                · rw [if_pos c32] at H
                  have c32b0 : ((bt x6_5 0) == 95) = true := beq_iff_eq.mpr c32
                  have c32b1 : ((bt x6_5 0) != 95) = false := bne_eq_false_iff_eq.mpr c32
                  clear c32
                  have H' := Aside0.mk H
                  clear H
                  have p31 : 0 ≤ (0 : Int) := (by omega)
                  have q31 : 0 < x6_5.size := (by have : (0 : Int) < (x6_5.size : Int) := of_decide_eq_true (by first | (with_reducible assumption) | assumption); omega)
                  have hx31 : ∀ h : 0 < x6_5.size, ((x6_5[0]'h).toNat : Int) = bt x6_5 0 := bt_at x6_5 0
                  clear p31
                  have qi31 : (0 < (x6_5.size : Int)) = True := eq_true (of_decide_eq_true (by first | (with_reducible assumption) | assumption))
                  replace q31 := eq_true q31
                  go_wp2
                  repeat (go_quiet (fail); try go_wp2)
                  go_meet
                  case rel => exact ⟨_, (true), (by first | rfl | (simp; done) | (simp [*]; done) | (simp [wrap64]; done) | (simp [isEmpty_bne]; done)), H', ⟨by have := HJ1.out; have := HJ5.out; first | omega | exact Nat.le_refl _⟩, ⟨by repeat (first | (with_reducible first | exact HB.out | apply below_alloc | apply pw_below_drewN | apply below_drew1) | exact HB.out)⟩⟩
                · rw [if_neg c32] at H
                  have c32b0 : ((bt x6_5 0) == 95) = false := beq_eq_false_iff_ne.mpr c32
                  have c32b1 : ((bt x6_5 0) != 95) = true := bne_iff_ne.mpr c32
                  obtain ⟨ji33, hji33⟩ : ∃ j_ : Int, (wrap64 ((x6_5.size : Int) - 1)) = j_ := ⟨_, rfl⟩
                  replace H : (if 0 ≤ (ji33) then (if (ji33) < (x6_5.size : Int) then (if (bt x6_5 (ji33)) = 95 then (token_Digits.j4 kj5 x5_5 x6_5 true) else ((strings_Contains.f x6_5 (⟨#[95, 95]⟩ : ByteArray)).bind fun t121 => (token_Digits.j4 kj5 x5_5 x6_5 t121))) else (none)) else (none)) = some (r1, r2, r3) := by first | (rw [hji33] at H; exact H) | (simp only [hji33] at H ⊢; exact H)
                  have hji33w : (IntKind.i64.wrap ((x6_5.size : Int) - 1)) = ji33 := (i64_w _).trans hji33
                  by_cases c34 : 0 ≤ (ji33)
                  · rw [if_pos c34] at H
                    have c34b0 : decide (0 ≤ (ji33)) = true := decide_eq_true c34
                    clear c34
                    by_cases c35 : (ji33) < (x6_5.size : Int)
                    · rw [if_pos c35] at H
                      have c35b0 : decide ((ji33) < (x6_5.size : Int)) = true := decide_eq_true c35
                      clear c35
                      by_cases c37 : (bt x6_5 (ji33)) = 95
                      · rw [if_pos c37] at H
                        have c37b0 : ((bt x6_5 (ji33)) == 95) = true := beq_iff_eq.mpr c37
                        have c37b1 : ((bt x6_5 (ji33)) != 95) = false := bne_eq_false_iff_eq.mpr c37
                        clear c37
                        have H' := Aside0.mk H
                        clear H
                        have p31 : 0 ≤ (0 : Int) := (by omega)
                        have q31 : 0 < x6_5.size := (by have : (0 : Int) < (x6_5.size : Int) := of_decide_eq_true (by first | (with_reducible assumption) | assumption); omega)
                        have hx31 : ∀ h : 0 < x6_5.size, ((x6_5[0]'h).toNat : Int) = bt x6_5 0 := bt_at x6_5 0
                        clear p31
                        have qi31 : (0 < (x6_5.size : Int)) = True := eq_true (of_decide_eq_true (by first | (with_reducible assumption) | assumption))
                        replace q31 := eq_true q31
                        have p36 : 0 ≤ ((ji33) : Int) := of_decide_eq_true (by first | (with_reducible assumption) | assumption)
                        have q36 : (ji33) < (x6_5.size : Int) := of_decide_eq_true (by first | (with_reducible assumption) | assumption)
                        have hx36 := bt_at x6_5 (ji33)
                        replace p36 := eq_true p36
                        replace q36 := eq_true q36
                        go_wp2
                        repeat (go_quiet (fail); try go_wp2)
                        go_meet
                        case rel => exact ⟨_, (true), (by first | rfl | (simp; done) | (simp [*]; done) | (simp [wrap64]; done) | (simp [isEmpty_bne]; done)), H', ⟨by have := HJ1.out; have := HJ5.out; first | omega | exact Nat.le_refl _⟩, ⟨by repeat (first | (with_reducible first | exact HB.out | apply below_alloc | apply pw_below_drewN | apply below_drew1) | exact HB.out)⟩⟩
                      · rw [if_neg c37] at H
                        have c37b0 : ((bt x6_5 (ji33)) == 95) = false := beq_eq_false_iff_ne.mpr c37
                        have c37b1 : ((bt x6_5 (ji33)) != 95) = true := bne_iff_ne.mpr c37
                        replace H := Option.bind_eq_some_iff.mp H
                        obtain ⟨t121, A380, H⟩ := H
                        replace H : (token_Digits.j4 kj5 x5_5 x6_5 t121) = some (r1, r2, r3) := H
                        have A38 := Aside0.mk A380
                        clear A380
                        have H' := Aside0.mk H
                        clear H
                        have p31 : 0 ≤ (0 : Int) := (by omega)
                        have q31 : 0 < x6_5.size := (by have : (0 : Int) < (x6_5.size : Int) := of_decide_eq_true (by first | (with_reducible assumption) | assumption); omega)
                        have hx31 : ∀ h : 0 < x6_5.size, ((x6_5[0]'h).toNat : Int) = bt x6_5 0 := bt_at x6_5 0
                        clear p31
                        have qi31 : (0 < (x6_5.size : Int)) = True := eq_true (of_decide_eq_true (by first | (with_reducible assumption) | assumption))
                        replace q31 := eq_true q31
                        have p36 : 0 ≤ ((ji33) : Int) := of_decide_eq_true (by first | (with_reducible assumption) | assumption)
                        have q36 : (ji33) < (x6_5.size : Int) := of_decide_eq_true (by first | (with_reducible assumption) | assumption)
                        have hx36 := bt_at x6_5 (ji33)
                        replace p36 := eq_true p36
                        replace q36 := eq_true q36
                        go_wp2_with (first | (go_at_call 37; (with_reducible refine (strings_Contains.calls x6_5 (⟨#[95, 95]⟩ : ByteArray) t121 _ ?side1 A38.out).mono ?_); (case side1 => exact Tabs.below HT (by repeat (first | (with_reducible first | exact HB.out | apply below_alloc | apply pw_below_drewN | apply below_drew1) | exact HB.out))); rintro e w39 ⟨rfl, hb⟩; have n0_ := Aside0.mk (below_step (by repeat (first | (with_reducible first | exact HB.out | apply below_alloc | apply pw_below_drewN | apply below_drew1) | exact HB.out)) hb); clear HB; have HB := n0_; clear n0_; (try clear hb); (try clear hb2); (try clear hk); (try clear hi)))
                        repeat (go_quiet (first | (go_at_call 37; (with_reducible refine (strings_Contains.calls x6_5 (⟨#[95, 95]⟩ : ByteArray) t121 _ ?side1 A38.out).mono ?_); (case side1 => exact Tabs.below HT (by repeat (first | (with_reducible first | exact HB.out | apply below_alloc | apply pw_below_drewN | apply below_drew1) | exact HB.out))); rintro e w39 ⟨rfl, hb⟩; have n0_ := Aside0.mk (below_step (by repeat (first | (with_reducible first | exact HB.out | apply below_alloc | apply pw_below_drewN | apply below_drew1) | exact HB.out)) hb); clear HB; have HB := n0_; clear n0_; (try clear hb); (try clear hb2); (try clear hk); (try clear hi))); try go_wp2_with (first | (go_at_call 37; (with_reducible refine (strings_Contains.calls x6_5 (⟨#[95, 95]⟩ : ByteArray) t121 _ ?side1 A38.out).mono ?_); (case side1 => exact Tabs.below HT (by repeat (first | (with_reducible first | exact HB.out | apply below_alloc | apply pw_below_drewN | apply below_drew1) | exact HB.out))); rintro e w39 ⟨rfl, hb⟩; have n0_ := Aside0.mk (below_step (by repeat (first | (with_reducible first | exact HB.out | apply below_alloc | apply pw_below_drewN | apply below_drew1) | exact HB.out)) hb); clear HB; have HB := n0_; clear n0_; (try clear hb); (try clear hb2); (try clear hk); (try clear hi))))
                        go_meet
                        case rel => exact ⟨_, (t121), (by first | rfl | (simp; done) | (simp [*]; done) | (simp [wrap64]; done) | (simp [isEmpty_bne]; done)), H', ⟨by have := HJ1.out; have := HJ5.out; first | omega | exact Nat.le_refl _⟩, ⟨by repeat (first | (with_reducible first | exact HB.out | apply below_alloc | apply pw_below_drewN | apply below_drew1) | exact HB.out)⟩⟩
                    · rw [if_neg c35] at H
                      exact absurd H (by simp)
                  · rw [if_neg c34] at H
                    exact absurd H (by simp)
              · rw [if_neg c30] at H
                exact absurd H (by simp)
          case rest =>
            clear HC28
            try clear c1
            try clear p1
            try clear q1
            try clear hx1
            try clear qi1
            try clear c2
            try clear p2
            try clear c3
            try clear c3b0
            try clear c3b1
            try clear p3
            try clear q3
            try clear hx3
            try clear qi3
            try clear c4
            try clear c4b0
            try clear c4b1
            try clear p5
            try clear q5
            try clear hx5
            try clear qi5
            try clear p6
            try clear c7
            try clear c8
            try clear c8b0
            try clear c8b1
            try clear c9
            try clear c9b0
            try clear c9b1
            try clear p10
            try clear q10
            try clear hx10
            try clear qi10
            try clear c12
            try clear c12b0
            try clear c12b1
            try clear c13
            try clear c14
            try clear c14b0
            try clear c14b1
            try clear c15
            try clear c17
            try clear c17b0
            try clear c17b1
            try clear c18
            try clear c19
            try clear c19b0
            try clear c19b1
            try clear c21
            try clear c21b0
            try clear c21b1
            try clear c22
            try clear c22b0
            try clear c22b1
            try clear c24
            try clear c24b0
            try clear c24b1
            try clear c25
            try clear c25b0
            try clear c25b1
            try clear c29
            try clear c29b0
            try clear c29b1
            try clear c29b2
            try clear c30
            try clear c30b0
            try clear c30b1
            try clear p31
            try clear q31
            try clear hx31
            try clear qi31
            try clear c32
            try clear c32b0
            try clear c32b1
            try clear c34
            try clear c34b0
            try clear c35
            try clear c35b0
            try clear p36
            try clear q36
            try clear hx36
            try clear c37
            try clear c37b0
            try clear c37b1
            try clear p1
            try clear p10
            try clear p2
            try clear p31
            try clear p36
            try clear p5
            try clear p6
            try clear q1
            try clear q10
            try clear q31
            try clear q36
            try clear q5
            obtain ⟨kq, x56_27, rfl, HA, HJ27, HB⟩ := hcut
            cases kq with
            | zero => exact absurd HA.out (by simp [token_Digits.j4])
            | succ kj27 =>
              have H := HA.out
              clear HA
              simp only [token_Digits.j4] at H
              by_cases c40 : x56_27 = true
              · subst c40
                have H1 : (some (0, (⟨#[]⟩ : ByteArray), false)) = some (r1, r2, r3) := by rw [if_pos rfl] at H; exact H
                clear H
                have H := H1
                clear H1
                simp only [Option.some.injEq, Prod.mk.injEq] at H
                obtain ⟨rfl, rfl, rfl⟩ := H
                go_wp2
                repeat (go_quiet (fail); try go_wp2)
                go_ret3
                exact ⟨by first | rfl | (simp [errW_none, errW_some] <;> rfl) | (simp [*, errW_none, errW_some] <;> rfl), by repeat (first | (with_reducible first | exact HB.out | apply below_alloc | apply pw_below_drewN | apply below_drew1) | exact HB.out)⟩
              · replace c40 := Bool.eq_false_iff.mpr c40
                subst c40
                have H1 : ((strings_ReplaceAll.f x6_5 (⟨#[95]⟩ : ByteArray) (⟨#[]⟩ : ByteArray)).bind fun t122 => (token_Digits.l0 kj27 x5_5 t122 (t122.size : Int) 0)) = some (r1, r2, r3) := by rw [if_neg (show ¬ (false = true) by decide)] at H; exact H
                clear H
                have H := H1
                clear H1
                replace H := Option.bind_eq_some_iff.mp H
                obtain ⟨t122, A410, H⟩ := H
                replace H : (token_Digits.l0 kj27 x5_5 t122 (t122.size : Int) 0) = some (r1, r2, r3) := H
                have A41 := Aside0.mk A410
                clear A410
                have H' := Aside0.mk H
                clear H
                go_wp2_with (first | (go_at_call 38; (with_reducible refine (strings_ReplaceAll.calls x6_5 (⟨#[95]⟩ : ByteArray) (⟨#[]⟩ : ByteArray) t122 _ ?side1 A41.out).mono ?_); (case side1 => exact Tabs.below HT (by repeat (first | (with_reducible first | exact HB.out | apply below_alloc | apply pw_below_drewN | apply below_drew1) | exact HB.out))); rintro e w42 ⟨rfl, hb⟩; have n0_ := Aside0.mk (below_step (by repeat (first | (with_reducible first | exact HB.out | apply below_alloc | apply pw_below_drewN | apply below_drew1) | exact HB.out)) hb); clear HB; have HB := n0_; clear n0_; (try clear hb); (try clear hb2); (try clear hk); (try clear hi)))
                repeat (go_quiet (first | (go_at_call 38; (with_reducible refine (strings_ReplaceAll.calls x6_5 (⟨#[95]⟩ : ByteArray) (⟨#[]⟩ : ByteArray) t122 _ ?side1 A41.out).mono ?_); (case side1 => exact Tabs.below HT (by repeat (first | (with_reducible first | exact HB.out | apply below_alloc | apply pw_below_drewN | apply below_drew1) | exact HB.out))); rintro e w42 ⟨rfl, hb⟩; have n0_ := Aside0.mk (below_step (by repeat (first | (with_reducible first | exact HB.out | apply below_alloc | apply pw_below_drewN | apply below_drew1) | exact HB.out)) hb); clear HB; have HB := n0_; clear n0_; (try clear hb); (try clear hb2); (try clear hk); (try clear hi))); try go_wp2_with (first | (go_at_call 38; (with_reducible refine (strings_ReplaceAll.calls x6_5 (⟨#[95]⟩ : ByteArray) (⟨#[]⟩ : ByteArray) t122 _ ?side1 A41.out).mono ?_); (case side1 => exact Tabs.below HT (by repeat (first | (with_reducible first | exact HB.out | apply below_alloc | apply pw_below_drewN | apply below_drew1) | exact HB.out))); rintro e w42 ⟨rfl, hb⟩; have n0_ := Aside0.mk (below_step (by repeat (first | (with_reducible first | exact HB.out | apply below_alloc | apply pw_below_drewN | apply below_drew1) | exact HB.out)) hb); clear HB; have HB := n0_; clear n0_; (try clear hb); (try clear hb2); (try clear hk); (try clear hi))))
                go_loopg [61] kj27 (fun kq v61 w' => ∃ (x61_4 : Int), v61 = .int .i64 x61_4 ∧ Aside0 (token_Digits.l0 kq x5_5 t122 (t122.size : Int) x61_4 = some (r1, r2, r3)) ∧ Aside0 (kq ≤ kj27) ∧ Aside0 (Below w.heap.size w w'))
                case atStart => exact ⟨(0), (by first | rfl | (simp; done) | (simp [*]; done) | (simp [wrap64]; done) | (simp [isEmpty_bne]; done)), H', ⟨Nat.le_refl _⟩, ⟨by repeat (first | (with_reducible first | exact HB.out | apply below_alloc | apply pw_below_drewN | apply below_drew1) | exact HB.out)⟩⟩
                case round =>
                  clear H'
                  try clear c1
                  try clear p1
                  try clear q1
                  try clear hx1
                  try clear qi1
                  try clear c2
                  try clear p2
                  try clear c3
                  try clear c3b0
                  try clear c3b1
                  try clear p3
                  try clear q3
                  try clear hx3
                  try clear qi3
                  try clear c4
                  try clear c4b0
                  try clear c4b1
                  try clear p5
                  try clear q5
                  try clear hx5
                  try clear qi5
                  try clear p6
                  try clear c7
                  try clear c8
                  try clear c8b0
                  try clear c8b1
                  try clear c9
                  try clear c9b0
                  try clear c9b1
                  try clear p10
                  try clear q10
                  try clear hx10
                  try clear qi10
                  try clear c12
                  try clear c12b0
                  try clear c12b1
                  try clear c13
                  try clear c14
                  try clear c14b0
                  try clear c14b1
                  try clear c15
                  try clear c17
                  try clear c17b0
                  try clear c17b1
                  try clear c18
                  try clear c19
                  try clear c19b0
                  try clear c19b1
                  try clear c21
                  try clear c21b0
                  try clear c21b1
                  try clear c22
                  try clear c22b0
                  try clear c22b1
                  try clear c24
                  try clear c24b0
                  try clear c24b1
                  try clear c25
                  try clear c25b0
                  try clear c25b1
                  try clear c29
                  try clear c29b0
                  try clear c29b1
                  try clear c29b2
                  try clear c30
                  try clear c30b0
                  try clear c30b1
                  try clear p31
                  try clear q31
                  try clear hx31
                  try clear qi31
                  try clear c32
                  try clear c32b0
                  try clear c32b1
                  try clear c34
                  try clear c34b0
                  try clear c35
                  try clear c35b0
                  try clear p36
                  try clear q36
                  try clear hx36
                  try clear c37
                  try clear c37b0
                  try clear c37b1
                  try clear c40
                  try clear p1
                  try clear p10
                  try clear p2
                  try clear p3
                  try clear p31
                  try clear p36
                  try clear p5
                  try clear p6
                  try clear q1
                  try clear q10
                  try clear q3
                  try clear q31
                  try clear q36
                  try clear q5
                  obtain ⟨x61_4, rfl, HA, HK4, HB⟩ := hrel
                  cases gk with
                  | zero => exact absurd HA.out (by simp [token_Digits.l0])
                  | succ k4 =>
                    have H := HA.out
                    clear HA
                    simp only [token_Digits.l0] at H
                    by_cases c43 : x61_4 < (t122.size : Int)
                    · rw [if_pos c43] at H
                      have c43b0 : decide (x61_4 < (t122.size : Int)) = true := decide_eq_true c43
                      clear c43
                      by_cases c44 : 0 ≤ x61_4
                      · rw [if_pos c44] at H
                        have c44b0 : decide (0 ≤ x61_4) = true := decide_eq_true c44
                        clear c44
                        by_cases c45 : x61_4 < (t122.size : Int)
                        · rw [if_pos c45] at H
                          have c45b0 : decide (x61_4 < (t122.size : Int)) = true := decide_eq_true c45
                          clear c45
                          replace H := Option.bind_eq_some_iff.mp H
                          obtain ⟨t123, A470, H⟩ := H
                          replace H : (if t123 ≥ x5_5 then (some (0, (⟨#[]⟩ : ByteArray), false)) else (token_Digits.l0 k4 x5_5 t122 (t122.size : Int) (wrap64 (x61_4 + 1)))) = some (r1, r2, r3) := H
                          have A47 := Aside0.mk A470
                          clear A470
                          by_cases c48 : t123 ≥ x5_5
                          · rw [if_pos c48] at H
                            have c48b0 : decide (x5_5 ≤ t123) = true := decide_eq_true c48
                            clear c48
                            simp only [Option.some.injEq, Prod.mk.injEq] at H
                            obtain ⟨rfl, rfl, rfl⟩ := H
                            have p46 : 0 ≤ (x61_4 : Int) := of_decide_eq_true (by first | (with_reducible assumption) | assumption)
                            have q46 : x61_4 < (t122.size : Int) := of_decide_eq_true (by first | (with_reducible assumption) | assumption)
                            have hx46 := bt_at t122 x61_4
                            replace p46 := eq_true p46
                            replace q46 := eq_true q46
                            go_wp2_with (first | (go_at_call 39; (with_reducible refine (token_digit.calls k4 (bt t122 x61_4) t123 _ A47.out).mono ?_); rintro e w' ⟨rfl, ⟨nd, rfl⟩⟩; (try first | exact ⟨rfl, _, World.drewN_drewN _ _ _⟩ | exact ⟨rfl, _, Eq.trans (World.drewN_drewN _ _ _) (congrArg (World.drewN _) (Nat.add_assoc _ _ _))⟩)))
                            repeat (go_quiet (first | (go_at_call 39; (with_reducible refine (token_digit.calls k4 (bt t122 x61_4) t123 _ A47.out).mono ?_); rintro e w' ⟨rfl, ⟨nd, rfl⟩⟩; (try first | exact ⟨rfl, _, World.drewN_drewN _ _ _⟩ | exact ⟨rfl, _, Eq.trans (World.drewN_drewN _ _ _) (congrArg (World.drewN _) (Nat.add_assoc _ _ _))⟩))); try go_wp2_with (first | (go_at_call 39; (with_reducible refine (token_digit.calls k4 (bt t122 x61_4) t123 _ A47.out).mono ?_); rintro e w' ⟨rfl, ⟨nd, rfl⟩⟩; (try first | exact ⟨rfl, _, World.drewN_drewN _ _ _⟩ | exact ⟨rfl, _, Eq.trans (World.drewN_drewN _ _ _) (congrArg (World.drewN _) (Nat.add_assoc _ _ _))⟩))))
                            go_ret3
                            exact ⟨by first | rfl | (simp [errW_none, errW_some] <;> rfl) | (simp [*, errW_none, errW_some] <;> rfl), by repeat (first | (with_reducible first | exact HB.out | apply below_alloc | apply pw_below_drewN | apply below_drew1) | exact HB.out)⟩
                          · rw [if_neg c48] at H
                            have c48b0 : decide (x5_5 ≤ t123) = false := decide_eq_false c48
                            clear c48
                            have H' := Aside0.mk H
                            clear H
                            have p46 : 0 ≤ (x61_4 : Int) := of_decide_eq_true (by first | (with_reducible assumption) | assumption)
                            have q46 : x61_4 < (t122.size : Int) := of_decide_eq_true (by first | (with_reducible assumption) | assumption)
                            have hx46 := bt_at t122 x61_4
                            replace p46 := eq_true p46
                            replace q46 := eq_true q46
                            go_wp2_with (first | (go_at_call 39; (with_reducible refine (token_digit.calls k4 (bt t122 x61_4) t123 _ A47.out).mono ?_); rintro e w' ⟨rfl, ⟨nd, rfl⟩⟩; (try first | exact ⟨rfl, _, World.drewN_drewN _ _ _⟩ | exact ⟨rfl, _, Eq.trans (World.drewN_drewN _ _ _) (congrArg (World.drewN _) (Nat.add_assoc _ _ _))⟩)))
                            repeat (go_quiet (first | (go_at_call 39; (with_reducible refine (token_digit.calls k4 (bt t122 x61_4) t123 _ A47.out).mono ?_); rintro e w' ⟨rfl, ⟨nd, rfl⟩⟩; (try first | exact ⟨rfl, _, World.drewN_drewN _ _ _⟩ | exact ⟨rfl, _, Eq.trans (World.drewN_drewN _ _ _) (congrArg (World.drewN _) (Nat.add_assoc _ _ _))⟩))); try go_wp2_with (first | (go_at_call 39; (with_reducible refine (token_digit.calls k4 (bt t122 x61_4) t123 _ A47.out).mono ?_); rintro e w' ⟨rfl, ⟨nd, rfl⟩⟩; (try first | exact ⟨rfl, _, World.drewN_drewN _ _ _⟩ | exact ⟨rfl, _, Eq.trans (World.drewN_drewN _ _ _) (congrArg (World.drewN _) (Nat.add_assoc _ _ _))⟩))))
                            go_roundg k4
                            case measure => have := HJ1.out; have := HJ5.out; have := HJ27.out; have := HK4.out; omega
                            case rel => exact ⟨(wrap64 (x61_4 + 1)), (by first | rfl | (simp; done) | (simp [*]; done) | (simp [wrap64]; done) | (simp [isEmpty_bne]; done)), H', ⟨by have := HJ1.out; have := HJ5.out; have := HJ27.out; have := HK4.out; omega⟩, ⟨by repeat (first | (with_reducible first | exact HB.out | apply below_alloc | apply pw_below_drewN | apply below_drew1) | exact HB.out)⟩⟩
                        · rw [if_neg c45] at H
                          exfalso
                          simp [c45] at c43b0
                      · rw [if_neg c44] at H
                        exact absurd H (by simp)
                    · rw [if_neg c43] at H
                      have c43b0 : decide (x61_4 < (t122.size : Int)) = false := decide_eq_false c43
                      clear c43
                      simp only [Option.some.injEq, Prod.mk.injEq] at H
                      obtain ⟨rfl, rfl, rfl⟩ := H
                      go_wp2
                      repeat (go_quiet (fail); try go_wp2)
                      go_ret3
                      exact ⟨by first | rfl | (simp [errW_none, errW_some] <;> rfl) | (simp [*, errW_none, errW_some] <;> rfl), by repeat (first | (with_reducible first | exact HB.out | apply below_alloc | apply pw_below_drewN | apply below_drew1) | exact HB.out)⟩

end Go.Proofs.YtkpceagbjodbbaaDoor.PA
