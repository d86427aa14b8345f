-- Printed by a program of this session (wip/xprint.py) for this claim: Lean checks it.
import Derived.Test.YtkpceagbjodbbaaDoorPA0
import Derived.Test.YtkpceagbjodbbaaDoorPA12
namespace Go.Proofs.YtkpceagbjodbbaaDoor.PA
open Go.RowKit Go.Proofs.YtkpceagbjodbbaaDoor.Ext Go.Proofs.YtkpceagbjodbbaaDoorW.PrintWords Go.Proofs.YtkpceagbjodbbaaDoorW.PrintLast Go.Proofs.YtkpceagbjodbbaaDoorW.PrintMore
attribute [local go_sem] max2_int min2_int max_two min_two max_three min_three max_four min_four   -- for this text's walks alone
set_option linter.unusedVariables false
set_option linter.unusedSimpArgs false

/-! ### scholiastref02_row: function 40 -/
mutual
def scholiastref02_row.j0 : Nat → ByteArray → Int → Bool → Option (ByteArray × Bool)
  | 0, _, _, _ => none
  | k + 1, x0, x1, x20 => if x20 = true then (if 1 ≤ (x0.size : Int) then (scholiastref02_row.j1 k (x0.extract 1 x0.size) x1) else (none)) else (scholiastref02_row.j1 k x0 x1)
def scholiastref02_row.j1 : Nat → ByteArray → Int → Option (ByteArray × Bool)
  | 0, _, _ => none
  | k + 1, x0, x1 => scholiastref02_row.l0 k x0 x1 (⟨#[]⟩ : ByteArray) 0
def scholiastref02_row.l0 : Nat → ByteArray → Int → ByteArray → Int → Option (ByteArray × Bool)
  | 0, _, _, _, _ => none
  | k + 1, x0, x1, x8, x9 => if x9 < (x0.size : Int) then (if 0 ≤ x9 then (if (bt x0 x9) = 95 then (if x9 > 0 then (if 0 ≤ (wrap64 (x9 - 1)) then (if (wrap64 (x9 - 1)) < (x0.size : Int) then (if (bt x0 (wrap64 (x9 - 1))) = 95 then (scholiastref02_row.j3 k x0 x1 x8 x9 false) else (scholiastref02_row.j3 k x0 x1 x8 x9 (decide ((wrap64 (x9 + 1)) < (x0.size : Int))))) else (none)) else (none)) else (scholiastref02_row.j3 k x0 x1 x8 x9 false)) else (scholiastref02_row.j3 k x0 x1 x8 x9 false)) else (none)) else (some (x8, (x8.toList != ([] : List UInt8))))
def scholiastref02_row.j3 : Nat → ByteArray → Int → ByteArray → Int → Bool → Option (ByteArray × Bool)
  | 0, _, _, _, _, _ => none
  | k + 1, x0, x1, x8, x9, x50 => if x50 = true then (scholiastref02_row.l0 k x0 x1 x8 (wrap64 (x9 + 1))) else (if 0 ≤ x9 then (if x9 < (x0.size : Int) then ((scholiastref02_Digit.f k (bt x0 x9)).bind fun t175 => (if t175 ≥ x1 then (some ((⟨#[]⟩ : ByteArray), false)) else (if x9 ≤ (wrap64 (x9 + 1)) then (if (wrap64 (x9 + 1)) ≤ (x0.size : Int) then (if x8.size + (x0.extract (x9 : Int).toNat ((wrap64 (x9 + 1)) : Int).toNat).size ≤ 9223372036854775807 then (scholiastref02_row.l0 k x0 x1 (x8 ++ (x0.extract (x9 : Int).toNat ((wrap64 (x9 + 1)) : Int).toNat)) (wrap64 (x9 + 1))) else (none)) else (none)) else (none)))) else (none)) else (none))
end
def scholiastref02_row.f (k : Nat) (a0 : ByteArray) (a1 : Int) (a2 : Bool) : Option (ByteArray × Bool) := if a2 = true then (if (a0.size : Int) > 0 then (if 0 < (a0.size : Int) then (scholiastref02_row.j0 k a0 a1 ((bt a0 0) == 95)) else (none)) else (scholiastref02_row.j0 k a0 a1 false)) else (scholiastref02_row.j0 k a0 a1 false)
theorem scholiastref02_row.mono_l : ∀ k, (∀ y0 y1 y2, LeO (scholiastref02_row.j0 k y0 y1 y2) (scholiastref02_row.j0 (k + 1) y0 y1 y2)) ∧ (∀ y0 y1, LeO (scholiastref02_row.j1 k y0 y1) (scholiastref02_row.j1 (k + 1) y0 y1)) ∧ (∀ y0 y1 y2 y3, LeO (scholiastref02_row.l0 k y0 y1 y2 y3) (scholiastref02_row.l0 (k + 1) y0 y1 y2 y3)) ∧ (∀ y0 y1 y2 y3 y4, LeO (scholiastref02_row.j3 k y0 y1 y2 y3 y4) (scholiastref02_row.j3 (k + 1) y0 y1 y2 y3 y4))
  | 0 => ⟨fun _ _ _ r h => by simp [scholiastref02_row.j0] at h, fun _ _ r h => by simp [scholiastref02_row.j1] at h, fun _ _ _ _ r h => by simp [scholiastref02_row.l0] at h, fun _ _ _ _ _ r h => by simp [scholiastref02_row.j3] at h⟩
  | k + 1 => by
    obtain ⟨ih0, ih1, ih2, ih3⟩ := scholiastref02_row.mono_l k
    refine ⟨?_, ?_, ?_, ?_⟩
    · intro y0 y1 y2
      unfold scholiastref02_row.j0
      repeat' first
      | (with_reducible exact ih0 _ _ _)
      | (with_reducible exact ih1 _ _)
      | (with_reducible exact ih2 _ _ _ _)
      | (with_reducible exact ih3 _ _ _ _ _)
      | (with_reducible exact scholiastref02_Digit.mono _ _)
      | (with_reducible exact LeO.refl _)
      | (with_reducible exact LeO.none _)
      | (with_reducible refine LeO.ite ?_ ?_)
      | (with_reducible refine LeO.bind ?_ (fun _ => ?_))
      | exact ih0 _ _ _
      | exact ih1 _ _
      | exact ih2 _ _ _ _
      | exact ih3 _ _ _ _ _
      | exact scholiastref02_Digit.mono _ _
      | exact LeO.none _
      | refine LeO.ite ?_ ?_
      | refine LeO.bind ?_ (fun _ => ?_)
    · intro y0 y1
      unfold scholiastref02_row.j1
      repeat' first
      | (with_reducible exact ih0 _ _ _)
      | (with_reducible exact ih1 _ _)
      | (with_reducible exact ih2 _ _ _ _)
      | (with_reducible exact ih3 _ _ _ _ _)
      | (with_reducible exact scholiastref02_Digit.mono _ _)
      | (with_reducible exact LeO.refl _)
      | (with_reducible exact LeO.none _)
      | (with_reducible refine LeO.ite ?_ ?_)
      | (with_reducible refine LeO.bind ?_ (fun _ => ?_))
      | exact ih0 _ _ _
      | exact ih1 _ _
      | exact ih2 _ _ _ _
      | exact ih3 _ _ _ _ _
      | exact scholiastref02_Digit.mono _ _
      | exact LeO.none _
      | refine LeO.ite ?_ ?_
      | refine LeO.bind ?_ (fun _ => ?_)
    · intro y0 y1 y2 y3
      unfold scholiastref02_row.l0
      repeat' first
      | (with_reducible exact ih0 _ _ _)
      | (with_reducible exact ih1 _ _)
      | (with_reducible exact ih2 _ _ _ _)
      | (with_reducible exact ih3 _ _ _ _ _)
      | (with_reducible exact scholiastref02_Digit.mono _ _)
      | (with_reducible exact LeO.refl _)
      | (with_reducible exact LeO.none _)
      | (with_reducible refine LeO.ite ?_ ?_)
      | (with_reducible refine LeO.bind ?_ (fun _ => ?_))
      | exact ih0 _ _ _
      | exact ih1 _ _
      | exact ih2 _ _ _ _
      | exact ih3 _ _ _ _ _
      | exact scholiastref02_Digit.mono _ _
      | exact LeO.none _
      | refine LeO.ite ?_ ?_
      | refine LeO.bind ?_ (fun _ => ?_)
    · intro y0 y1 y2 y3 y4
      unfold scholiastref02_row.j3
      repeat' first
      | (with_reducible exact ih0 _ _ _)
      | (with_reducible exact ih1 _ _)
      | (with_reducible exact ih2 _ _ _ _)
      | (with_reducible exact ih3 _ _ _ _ _)
      | (with_reducible exact scholiastref02_Digit.mono _ _)
      | (with_reducible exact LeO.refl _)
      | (with_reducible exact LeO.none _)
      | (with_reducible refine LeO.ite ?_ ?_)
      | (with_reducible refine LeO.bind ?_ (fun _ => ?_))
      | exact ih0 _ _ _
      | exact ih1 _ _
      | exact ih2 _ _ _ _
      | exact ih3 _ _ _ _ _
      | exact scholiastref02_Digit.mono _ _
      | exact LeO.none _
      | refine LeO.ite ?_ ?_
      | refine LeO.bind ?_ (fun _ => ?_)
theorem scholiastref02_row.mono : ∀ a0 a1 a2 k, LeO (scholiastref02_row.f k a0 a1 a2) (scholiastref02_row.f (k + 1) a0 a1 a2) := by
  intro a0 a1 a2 k
  obtain ⟨ih0, ih1, ih2, ih3⟩ := scholiastref02_row.mono_l k
  unfold scholiastref02_row.f
  repeat' first
      | (with_reducible exact ih0 _ _ _)
      | (with_reducible exact ih1 _ _)
      | (with_reducible exact ih2 _ _ _ _)
      | (with_reducible exact ih3 _ _ _ _ _)
      | (with_reducible exact scholiastref02_Digit.mono _ _)
      | (with_reducible exact LeO.refl _)
      | (with_reducible exact LeO.none _)
      | (with_reducible refine LeO.ite ?_ ?_)
      | (with_reducible refine LeO.bind ?_ (fun _ => ?_))
      | exact ih0 _ _ _
      | exact ih1 _ _
      | exact ih2 _ _ _ _
      | exact ih3 _ _ _ _ _
      | exact scholiastref02_Digit.mono _ _
      | exact LeO.none _
      | refine LeO.ite ?_ ?_
      | refine LeO.bind ?_ (fun _ => ?_)
set_option maxHeartbeats 8000000 in
set_option maxRecDepth 100000 in
theorem scholiastref02_row.calls (k : Nat) (a0 : ByteArray) (a1 : Int) (a2 : Bool) (r1 : ByteArray) (r2 : Bool) (w : World) (h : scholiastref02_row.f k a0 a1 a2 = some (r1, r2)) :
    Calls Tryd.prog 40 #[.string a0, .int .i64 a1, .bool a2] w fun e w' => e = .returned (.tuple #[.string r1, .bool r2]) ∧ Drawn0 w w' := by
  have H : (if a2 = true then (if (a0.size : Int) > 0 then (if 0 < (a0.size : Int) then (scholiastref02_row.j0 k a0 a1 ((bt a0 0) == 95)) else (none)) else (scholiastref02_row.j0 k a0 a1 false)) else (scholiastref02_row.j0 k a0 a1 false)) = some (r1, r2) := h
  clear h
  have HC4 := Aside0.mk H
  clear H
  go_enter Tryd.func40, Tryd.ntmps40
  go_upto_region 1 with (fail)
  go_cut [20] (fun v20 wc => ∃ (kq : Nat) (x20_3 : Bool), v20 = .bool x20_3 ∧ Aside0 (scholiastref02_row.j0 kq a0 a1 x20_3 = some (r1, r2)) ∧ Aside0 (kq ≤ k) ∧ Drawn0 w wc)
  case first =>
    have H := HC4.out
    clear HC4
    by_cases c5 : a2 = true
    · subst c5
      have H1 : (if (a0.size : Int) > 0 then (if 0 < (a0.size : Int) then (scholiastref02_row.j0 k a0 a1 ((bt a0 0) == 95)) else (none)) else (scholiastref02_row.j0 k a0 a1 false)) = some (r1, r2) := by rw [if_pos rfl] at H; exact H
      clear H
      have H := H1
      clear H1
      by_cases c6 : (a0.size : Int) > 0
      · rw [if_pos c6] at H
        have c6b0 : decide (0 < (a0.size : Int)) = true := decide_eq_true c6
        have c6b1 : decide (0 < a0.size) = true := decide_eq_true (by omega)
        clear c6
        (first | rw [c6b0] | (simp only [i64_w, i32_w]; rw [c6b0]) | skip)
        by_cases c7 : 0 < (a0.size : Int)
        · rw [if_pos c7] at H
          have c7b0 : decide (0 < (a0.size : Int)) = true := decide_eq_true c7
          have c7b1 : decide (0 < a0.size) = true := decide_eq_true (by omega)
          clear c7
          have H' := Aside0.mk H
          clear H
          have p8 : 0 ≤ (0 : Int) := (by omega)
          have q8 : 0 < a0.size := (by have : (0 : Int) < (a0.size : Int) := of_decide_eq_true (by first | (with_reducible assumption) | assumption); omega)
          have hx8 : ∀ h : 0 < a0.size, ((a0[0]'h).toNat : Int) = bt a0 0 := bt_at a0 0
          clear p8
          have qi8 : (0 < (a0.size : Int)) = True := eq_true (of_decide_eq_true (by first | (with_reducible assumption) | assumption))
          replace q8 := eq_true q8
          go_wp2
          go_meet
          case rel => exact ⟨_, (((bt a0 0) == 95)), (by first | rfl | (simp; done) | (simp [*]; done) | (simp [wrap64]; done) | (simp [isEmpty_bne]; done)), H', ⟨by first | omega | exact Nat.le_refl _⟩, by repeat (first | exact Drawn0.refl _ | apply Drawn0.step)⟩
        · rw [if_neg c7] at H
          exact absurd H (by simp)
      · rw [if_neg c6] at H
        have c6b0 : decide (0 < (a0.size : Int)) = false := decide_eq_false c6
        have c6b1 : decide (0 < a0.size) = false := decide_eq_false (by omega)
        clear c6
        (first | rw [c6b0] | (simp only [i64_w, i32_w]; rw [c6b0]) | skip)
        have H' := Aside0.mk H
        clear H
        go_wp2
        go_meet
        case rel => exact ⟨_, (false), (by first | rfl | (simp; done) | (simp [*]; done) | (simp [wrap64]; done) | (simp [isEmpty_bne]; done)), H', ⟨by first | omega | exact Nat.le_refl _⟩, by repeat (first | exact Drawn0.refl _ | apply Drawn0.step)⟩
    · replace c5 := Bool.eq_false_iff.mpr c5
      subst c5
      have H1 : (scholiastref02_row.j0 k a0 a1 false) = some (r1, r2) := by rw [if_neg (show ¬ (false = true) by decide)] at H; exact H
      clear H
      have H := H1
      clear H1
      have H' := Aside0.mk H
      clear H
      go_wp2
      go_meet
      case rel => exact ⟨_, (false), (by first | rfl | (simp; done) | (simp [*]; done) | (simp [wrap64]; done) | (simp [isEmpty_bne]; done)), H', ⟨by first | omega | exact Nat.le_refl _⟩, by repeat (first | exact Drawn0.refl _ | apply Drawn0.step)⟩
  case rest =>
    clear HC4
    try clear p2
    try clear c4
    try clear c5
    try clear c6
    try clear c6b0
    try clear c6b1
    try clear p6
    try clear c7
    try clear c7b0
    try clear c7b1
    try clear p8
    try clear q8
    try clear hx8
    try clear qi8
    try clear p8
    try clear q8
    obtain ⟨kq, x20_3, rfl, HA, HJ3, ⟨mc3, rfl⟩⟩ := hcut
    cases kq with
    | zero => exact absurd HA.out (by simp [scholiastref02_row.j0])
    | succ kj3 =>
      have H := HA.out
      clear HA
      simp only [scholiastref02_row.j0] at H
      have HC9 := Aside0.mk H
      clear H
      go_upto_if 20 with (fail)
      go_cut [0] (fun v0 wc => ∃ (kq : Nat) (x0_8 : ByteArray), v0 = .string x0_8 ∧ Aside0 (scholiastref02_row.j1 kq x0_8 a1 = some (r1, r2)) ∧ Aside0 (kq ≤ kj3) ∧ Drawn0 w wc)
      case first =>
        have H := HC9.out
        clear HC9
        by_cases c10 : x20_3 = true
        · subst c10
          have H1 : (if 1 ≤ (a0.size : Int) then (scholiastref02_row.j1 kj3 (a0.extract 1 a0.size) a1) else (none)) = some (r1, r2) := by rw [if_pos rfl] at H; exact H
          clear H
          have H := H1
          clear H1
          by_cases c11 : 1 ≤ (a0.size : Int)
          · rw [if_pos c11] at H
            have c11b0 := eq_true c11
            have c11b1 : decide (1 ≤ (a0.size : Int)) = true := decide_eq_true c11
            clear c11
            have H' := Aside0.mk H
            clear H
            go_wp2
            go_meet
            case rel => exact ⟨_, (a0.extract 1 a0.size), (by first | rfl | (simp; done) | (simp [*]; done) | (simp [wrap64]; done) | (simp [isEmpty_bne]; done)), H', ⟨by have := HJ3.out; first | omega | exact Nat.le_refl _⟩, by repeat (first | exact Drawn0.refl _ | apply Drawn0.step)⟩
          · rw [if_neg c11] at H
            exact absurd H (by simp)
        · replace c10 := Bool.eq_false_iff.mpr c10
          subst c10
          have H1 : (scholiastref02_row.j1 kj3 a0 a1) = some (r1, r2) := by rw [if_neg (show ¬ (false = true) by decide)] at H; exact H
          clear H
          have H := H1
          clear H1
          have H' := Aside0.mk H
          clear H
          go_wp2
          go_meet
          case rel => exact ⟨_, (a0), (by first | rfl | (simp; done) | (simp [*]; done) | (simp [wrap64]; done) | (simp [isEmpty_bne]; done)), H', ⟨by have := HJ3.out; first | omega | exact Nat.le_refl _⟩, by repeat (first | exact Drawn0.refl _ | apply Drawn0.step)⟩
      case rest =>
        clear HC9
        try clear c1
        try clear p2
        try clear c3
        try clear c4
        try clear c5
        try clear c6
        try clear c6b0
        try clear c6b1
        try clear p6
        try clear c7
        try clear c7b0
        try clear c7b1
        try clear p8
        try clear q8
        try clear hx8
        try clear qi8
        try clear c10
        try clear c11
        try clear c11b0
        try clear c11b1
        try clear p2
        try clear p6
        try clear p8
        try clear q8
        obtain ⟨kq, x0_8, rfl, HA, HJ8, ⟨mc8, rfl⟩⟩ := hcut
        cases kq with
        | zero => exact absurd HA.out (by simp [scholiastref02_row.j1])
        | succ kj8 =>
          have H := HA.out
          clear HA
          simp only [scholiastref02_row.j1] at H
          have H' := Aside0.mk H
          clear H
          go_wp2
          go_loopg [8, 9] kj8 (fun kq v8 v9 w' => ∃ (x8_3 : ByteArray) (x9_3 : Int), v8 = .string x8_3 ∧ v9 = .int .i64 x9_3 ∧ Aside0 (scholiastref02_row.l0 kq x0_8 a1 x8_3 x9_3 = some (r1, r2)) ∧ Aside0 (kq ≤ kj8) ∧ Drawn0 w w')
          case atStart => exact ⟨((⟨#[]⟩ : ByteArray)), (0), (by first | rfl | (simp; done) | (simp [*]; done) | (simp [wrap64]; done) | (simp [isEmpty_bne]; done)), (by first | rfl | (simp; done) | (simp [*]; done) | (simp [wrap64]; done) | (simp [isEmpty_bne]; done)), H', ⟨Nat.le_refl _⟩, by repeat (first | exact Drawn0.refl _ | apply Drawn0.step)⟩
          case round =>
            clear H'
            try clear c1
            try clear p2
            try clear c3
            try clear c4
            try clear c5
            try clear c6
            try clear c6b0
            try clear c6b1
            try clear p6
            try clear c7
            try clear c7b0
            try clear c7b1
            try clear c8
            try clear p8
            try clear q8
            try clear hx8
            try clear qi8
            try clear c10
            try clear c11
            try clear c11b0
            try clear c11b1
            try clear p2
            try clear p6
            try clear p8
            try clear q8
            obtain ⟨x8_3, x9_3, rfl, rfl, HA, HK3, ⟨m3, rfl⟩⟩ := hrel
            cases gk with
            | zero => exact absurd HA.out (by simp [scholiastref02_row.l0])
            | succ k3 =>
              have H := HA.out
              clear HA
              simp only [scholiastref02_row.l0] at H
              by_cases c12 : x9_3 < (x0_8.size : Int)
              · rw [if_pos c12] at H
                have c12b0 : decide (x9_3 < (x0_8.size : Int)) = true := decide_eq_true c12
                clear c12
                have HC13 := Aside0.mk H
                clear H
                go_upto_region 7 with (fail)
                go_cut [50] (fun v50 wc => ∃ (kq : Nat) (x50_12 : Bool), v50 = .bool x50_12 ∧ Aside0 (scholiastref02_row.j3 kq x0_8 a1 x8_3 x9_3 x50_12 = some (r1, r2)) ∧ Aside0 (kq ≤ k3) ∧ Drawn0 w wc)
                case first =>
                  have H := HC13.out
                  clear HC13
                  by_cases c14 : 0 ≤ x9_3
                  · rw [if_pos c14] at H
                    have c14b0 : decide (0 ≤ x9_3) = true := decide_eq_true c14
                    clear c14
                    (first | rw [c14b0] | (simp only [i64_w, i32_w]; rw [c14b0]) | skip)
                    by_cases c16 : (bt x0_8 x9_3) = 95
                    · rw [if_pos c16] at H
                      have c16b0 : ((bt x0_8 x9_3) == 95) = true := beq_iff_eq.mpr c16
                      have c16b1 : ((bt x0_8 x9_3) != 95) = false := bne_eq_false_iff_eq.mpr c16
                      clear c16
                      by_cases c17 : x9_3 > 0
                      · rw [if_pos c17] at H
                        have c17b0 : decide (0 < x9_3) = true := decide_eq_true c17
                        clear c17
                        obtain ⟨ji18, hji18⟩ : ∃ j_ : Int, (wrap64 (x9_3 - 1)) = j_ := ⟨_, rfl⟩
                        replace H : (if 0 ≤ (ji18) then (if (ji18) < (x0_8.size : Int) then (if (bt x0_8 (ji18)) = 95 then (scholiastref02_row.j3 k3 x0_8 a1 x8_3 x9_3 false) else (scholiastref02_row.j3 k3 x0_8 a1 x8_3 x9_3 (decide ((wrap64 (x9_3 + 1)) < (x0_8.size : Int))))) else (none)) else (none)) = some (r1, r2) := by first | (rw [hji18] at H; exact H) | (simp only [hji18] at H ⊢; exact H)
                        have hji18w : (IntKind.i64.wrap (x9_3 - 1)) = ji18 := (i64_w _).trans hji18
                        by_cases c19 : 0 ≤ (ji18)
                        · rw [if_pos c19] at H
                          have c19b0 : decide (0 ≤ (ji18)) = true := decide_eq_true c19
                          clear c19
                          by_cases c20 : (ji18) < (x0_8.size : Int)
                          · rw [if_pos c20] at H
                            have c20b0 : decide ((ji18) < (x0_8.size : Int)) = true := decide_eq_true c20
                            clear c20
                            by_cases c22 : (bt x0_8 (ji18)) = 95
                            · rw [if_pos c22] at H
                              have c22b0 : ((bt x0_8 (ji18)) == 95) = true := beq_iff_eq.mpr c22
                              have c22b1 : ((bt x0_8 (ji18)) != 95) = false := bne_eq_false_iff_eq.mpr c22
                              clear c22
                              have H' := Aside0.mk H
                              clear H
                              have p15 : 0 ≤ (x9_3 : Int) := of_decide_eq_true (by first | (with_reducible assumption) | assumption)
                              have q15 : x9_3 < (x0_8.size : Int) := of_decide_eq_true (by first | (with_reducible assumption) | assumption)
                              have hx15 := bt_at x0_8 x9_3
                              replace p15 := eq_true p15
                              replace q15 := eq_true q15
                              have p21 : 0 ≤ ((ji18) : Int) := of_decide_eq_true (by first | (with_reducible assumption) | assumption)
                              have q21 : (ji18) < (x0_8.size : Int) := of_decide_eq_true (by first | (with_reducible assumption) | assumption)
                              have hx21 := bt_at x0_8 (ji18)
                              replace p21 := eq_true p21
                              replace q21 := eq_true q21
                              go_wp2
                              go_meet
                              case rel => exact ⟨_, (false), (by first | rfl | (simp; done) | (simp [*]; done) | (simp [wrap64]; done) | (simp [isEmpty_bne]; done)), H', ⟨by have := HJ3.out; have := HJ8.out; have := HK3.out; first | omega | exact Nat.le_refl _⟩, by repeat (first | exact Drawn0.refl _ | apply Drawn0.step)⟩
                            · rw [if_neg c22] at H
                              have c22b0 : ((bt x0_8 (ji18)) == 95) = false := beq_eq_false_iff_ne.mpr c22
                              have c22b1 : ((bt x0_8 (ji18)) != 95) = true := bne_iff_ne.mpr c22
                              have H' := Aside0.mk H
                              clear H
                              have p15 : 0 ≤ (x9_3 : Int) := of_decide_eq_true (by first | (with_reducible assumption) | assumption)
                              have q15 : x9_3 < (x0_8.size : Int) := of_decide_eq_true (by first | (with_reducible assumption) | assumption)
                              have hx15 := bt_at x0_8 x9_3
                              replace p15 := eq_true p15
                              replace q15 := eq_true q15
                              have p21 : 0 ≤ ((ji18) : Int) := of_decide_eq_true (by first | (with_reducible assumption) | assumption)
                              have q21 : (ji18) < (x0_8.size : Int) := of_decide_eq_true (by first | (with_reducible assumption) | assumption)
                              have hx21 := bt_at x0_8 (ji18)
                              replace p21 := eq_true p21
                              replace q21 := eq_true q21
                              go_wp2
                              go_meet
                              case rel => exact ⟨_, (decide ((wrap64 (x9_3 + 1)) < (x0_8.size : Int))), (by first | rfl | (simp; done) | (simp [*]; done) | (simp [wrap64]; done) | (simp [isEmpty_bne]; done)), H', ⟨by have := HJ3.out; have := HJ8.out; have := HK3.out; first | omega | exact Nat.le_refl _⟩, by repeat (first | exact Drawn0.refl _ | apply Drawn0.step)⟩
                          · rw [if_neg c20] at H
                            exact absurd H (by simp)
                        · rw [if_neg c19] at H
                          exact absurd H (by simp)
                      · rw [if_neg c17] at H
                        have c17b0 : decide (0 < x9_3) = false := decide_eq_false c17
                        clear c17
                        have H' := Aside0.mk H
                        clear H
                        have p15 : 0 ≤ (x9_3 : Int) := of_decide_eq_true (by first | (with_reducible assumption) | assumption)
                        have q15 : x9_3 < (x0_8.size : Int) := of_decide_eq_true (by first | (with_reducible assumption) | assumption)
                        have hx15 := bt_at x0_8 x9_3
                        replace p15 := eq_true p15
                        replace q15 := eq_true q15
                        go_wp2
                        go_meet
                        case rel => exact ⟨_, (false), (by first | rfl | (simp; done) | (simp [*]; done) | (simp [wrap64]; done) | (simp [isEmpty_bne]; done)), H', ⟨by have := HJ3.out; have := HJ8.out; have := HK3.out; first | omega | exact Nat.le_refl _⟩, by repeat (first | exact Drawn0.refl _ | apply Drawn0.step)⟩
                    · rw [if_neg c16] at H
                      have c16b0 : ((bt x0_8 x9_3) == 95) = false := beq_eq_false_iff_ne.mpr c16
                      have c16b1 : ((bt x0_8 x9_3) != 95) = true := bne_iff_ne.mpr c16
                      have H' := Aside0.mk H
                      clear H
                      have p15 : 0 ≤ (x9_3 : Int) := of_decide_eq_true (by first | (with_reducible assumption) | assumption)
                      have q15 : x9_3 < (x0_8.size : Int) := of_decide_eq_true (by first | (with_reducible assumption) | assumption)
                      have hx15 := bt_at x0_8 x9_3
                      replace p15 := eq_true p15
                      replace q15 := eq_true q15
                      go_wp2
                      go_meet
                      case rel => exact ⟨_, (false), (by first | rfl | (simp; done) | (simp [*]; done) | (simp [wrap64]; done) | (simp [isEmpty_bne]; done)), H', ⟨by have := HJ3.out; have := HJ8.out; have := HK3.out; first | omega | exact Nat.le_refl _⟩, by repeat (first | exact Drawn0.refl _ | apply Drawn0.step)⟩
                  · rw [if_neg c14] at H
                    exact absurd H (by simp)
                case rest =>
                  clear HC13
                  try clear c1
                  try clear p1
                  try clear q1
                  try clear hx1
                  try clear c2
                  try clear p2
                  try clear q2
                  try clear hx2
                  try clear c3
                  try clear c4
                  try clear c5
                  try clear c6
                  try clear c6b0
                  try clear c6b1
                  try clear p6
                  try clear c7
                  try clear c7b0
                  try clear c7b1
                  try clear c8
                  try clear p8
                  try clear q8
                  try clear hx8
                  try clear qi8
                  try clear c10
                  try clear c11
                  try clear c11b0
                  try clear c11b1
                  try clear c12
                  try clear c12b0
                  try clear c14
                  try clear c14b0
                  try clear p15
                  try clear q15
                  try clear hx15
                  try clear c16
                  try clear c16b0
                  try clear c16b1
                  try clear c17
                  try clear c17b0
                  try clear c19
                  try clear c19b0
                  try clear c20
                  try clear c20b0
                  try clear p21
                  try clear q21
                  try clear hx21
                  try clear c22
                  try clear c22b0
                  try clear c22b1
                  try clear p15
                  try clear p2
                  try clear p21
                  try clear p6
                  try clear p8
                  try clear q15
                  try clear q21
                  try clear q8
                  obtain ⟨kq, x50_12, rfl, HA, HJ12, ⟨mc12, rfl⟩⟩ := hcut
                  cases kq with
                  | zero => exact absurd HA.out (by simp [scholiastref02_row.j3])
                  | succ kj12 =>
                    have H := HA.out
                    clear HA
                    simp only [scholiastref02_row.j3] at H
                    by_cases c23 : x50_12 = true
                    · subst c23
                      have H1 : (scholiastref02_row.l0 kj12 x0_8 a1 x8_3 (wrap64 (x9_3 + 1))) = some (r1, r2) := by rw [if_pos rfl] at H; exact H
                      clear H
                      have H := H1
                      clear H1
                      have H' := Aside0.mk H
                      clear H
                      go_wp2
                      go_roundg kj12
                      case measure => have := HJ3.out; have := HJ8.out; have := HK3.out; have := HJ12.out; omega
                      case rel => exact ⟨(x8_3), (wrap64 (x9_3 + 1)), (by first | rfl | (simp; done) | (simp [*]; done) | (simp [wrap64]; done) | (simp [isEmpty_bne]; done)), (by first | rfl | (simp; done) | (simp [*]; done) | (simp [wrap64]; done) | (simp [isEmpty_bne]; done)), H', ⟨by have := HJ3.out; have := HJ8.out; have := HK3.out; have := HJ12.out; omega⟩, by repeat (first | exact Drawn0.refl _ | apply Drawn0.step)⟩
                    · replace c23 := Bool.eq_false_iff.mpr c23
                      subst c23
                      have H1 : (if 0 ≤ x9_3 then (if x9_3 < (x0_8.size : Int) then ((scholiastref02_Digit.f kj12 (bt x0_8 x9_3)).bind fun t175 => (if t175 ≥ a1 then (some ((⟨#[]⟩ : ByteArray), false)) else (if x9_3 ≤ (wrap64 (x9_3 + 1)) then (if (wrap64 (x9_3 + 1)) ≤ (x0_8.size : Int) then (if x8_3.size + (x0_8.extract (x9_3 : Int).toNat ((wrap64 (x9_3 + 1)) : Int).toNat).size ≤ 9223372036854775807 then (scholiastref02_row.l0 kj12 x0_8 a1 (x8_3 ++ (x0_8.extract (x9_3 : Int).toNat ((wrap64 (x9_3 + 1)) : Int).toNat)) (wrap64 (x9_3 + 1))) else (none)) else (none)) else (none)))) else (none)) else (none)) = some (r1, r2) := by rw [if_neg (show ¬ (false = true) by decide)] at H; exact H
                      clear H
                      have H := H1
                      clear H1
                      by_cases c24 : 0 ≤ x9_3
                      · rw [if_pos c24] at H
                        have c24b0 : decide (0 ≤ x9_3) = true := decide_eq_true c24
                        clear c24
                        by_cases c25 : x9_3 < (x0_8.size : Int)
                        · rw [if_pos c25] at H
                          have c25b0 : decide (x9_3 < (x0_8.size : Int)) = true := decide_eq_true c25
                          clear c25
                          replace H := Option.bind_eq_some_iff.mp H
                          obtain ⟨t175, A270, H⟩ := H
                          replace H : (if t175 ≥ a1 then (some ((⟨#[]⟩ : ByteArray), false)) else (if x9_3 ≤ (wrap64 (x9_3 + 1)) then (if (wrap64 (x9_3 + 1)) ≤ (x0_8.size : Int) then (if x8_3.size + (x0_8.extract (x9_3 : Int).toNat ((wrap64 (x9_3 + 1)) : Int).toNat).size ≤ 9223372036854775807 then (scholiastref02_row.l0 kj12 x0_8 a1 (x8_3 ++ (x0_8.extract (x9_3 : Int).toNat ((wrap64 (x9_3 + 1)) : Int).toNat)) (wrap64 (x9_3 + 1))) else (none)) else (none)) else (none))) = some (r1, r2) := H
                          have A27 := Aside0.mk A270
                          clear A270
                          by_cases c28 : t175 ≥ a1
                          · rw [if_pos c28] at H
                            have c28b0 : decide (a1 ≤ t175) = true := decide_eq_true c28
                            clear c28
                            simp only [Option.some.injEq, Prod.mk.injEq] at H
                            obtain ⟨rfl, rfl⟩ := H
                            have p26 : 0 ≤ (x9_3 : Int) := of_decide_eq_true (by first | (with_reducible assumption) | assumption)
                            have q26 : x9_3 < (x0_8.size : Int) := of_decide_eq_true (by first | (with_reducible assumption) | assumption)
                            have hx26 := bt_at x0_8 x9_3
                            replace p26 := eq_true p26
                            replace q26 := eq_true q26
                            go_wp2_with (first | ((with_reducible refine gate_callee (f := 54) rfl ?_); refine goesL_ (some 54) rfl rfl Tryd.func54 (by kernel_rfl) rfl #[.int .u8 (bt x0_8 x9_3)] rfl (by (try simp only [List.map_toArray, List.map_cons, List.map_nil]); first | done | rfl | (simp only [List.length_drop, List.length_take]; rfl) | (rw [extract_all]; rfl)) ?_; (with_reducible refine (scholiastref02_Digit.calls kj12 (bt x0_8 x9_3) t175 _ A27.out).mono ?_); rintro e w' ⟨rfl, ⟨nd, rfl⟩⟩; refine ⟨_, rfl, ?_⟩))
                            go_ret2
                            exact ⟨by first | rfl | (simp; done) | (simp [*]; done) | (simp [wrap64]; done) | (simp [isEmpty_bne]; done), by repeat (first | exact Drawn0.refl _ | apply Drawn0.step)⟩
                          · rw [if_neg c28] at H
                            have c28b0 : decide (a1 ≤ t175) = false := decide_eq_false c28
                            clear c28
                            have c29b0 := eq_true (of_decide_eq_true (by first | (with_reducible assumption) | assumption) : 0 ≤ x9_3)
                            by_cases c30 : x9_3 ≤ (wrap64 (x9_3 + 1))
                            · rw [if_pos c30] at H
                              have c30b0 := eq_true c30
                              have c30b1 : decide (x9_3 ≤ (wrap64 (x9_3 + 1))) = true := decide_eq_true c30
                              by_cases c31 : (wrap64 (x9_3 + 1)) ≤ (x0_8.size : Int)
                              · rw [if_pos c31] at H
                                have c31b0 := eq_true c31
                                have c31b1 : decide ((wrap64 (x9_3 + 1)) ≤ (x0_8.size : Int)) = true := decide_eq_true c31
                                by_cases c32 : x8_3.size + (x0_8.extract (x9_3 : Int).toNat ((wrap64 (x9_3 + 1)) : Int).toNat).size ≤ 9223372036854775807
                                · rw [if_pos c32] at H
                                  have c32b0 := eq_true c32
                                  have c32b1 : decide (x8_3.size + (x0_8.extract (x9_3 : Int).toNat ((wrap64 (x9_3 + 1)) : Int).toNat).size ≤ 9223372036854775807) = true := decide_eq_true c32
                                  try have c32b2 : (9223372036854775807 < x8_3.size + (x0_8.extract (x9_3 : Int).toNat ((wrap64 (x9_3 + 1)) : Int).toNat).size) = False := eq_false (Nat.not_lt.2 c32)
                                  have H' := Aside0.mk H
                                  clear H
                                  have p26 : 0 ≤ (x9_3 : Int) := of_decide_eq_true (by first | (with_reducible assumption) | assumption)
                                  have q26 : x9_3 < (x0_8.size : Int) := of_decide_eq_true (by first | (with_reducible assumption) | assumption)
                                  have hx26 := bt_at x0_8 x9_3
                                  replace p26 := eq_true p26
                                  replace q26 := eq_true q26
                                  go_wp2_with (first | ((with_reducible refine gate_callee (f := 54) rfl ?_); refine goesL_ (some 54) rfl rfl Tryd.func54 (by kernel_rfl) rfl #[.int .u8 (bt x0_8 x9_3)] rfl (by (try simp only [List.map_toArray, List.map_cons, List.map_nil]); first | done | rfl | (simp only [List.length_drop, List.length_take]; rfl) | (rw [extract_all]; rfl)) ?_; (with_reducible refine (scholiastref02_Digit.calls kj12 (bt x0_8 x9_3) t175 _ A27.out).mono ?_); rintro e w' ⟨rfl, ⟨nd, rfl⟩⟩; refine ⟨_, rfl, ?_⟩))
                                  go_roundg kj12
                                  case measure => have := HJ3.out; have := HJ8.out; have := HK3.out; have := HJ12.out; omega
                                  case rel => exact ⟨(x8_3 ++ (x0_8.extract (x9_3 : Int).toNat ((wrap64 (x9_3 + 1)) : Int).toNat)), (wrap64 (x9_3 + 1)), (by first | rfl | (simp; done) | (simp [*]; done) | (simp [wrap64]; done) | (simp [isEmpty_bne]; done)), (by first | rfl | (simp; done) | (simp [*]; done) | (simp [wrap64]; done) | (simp [isEmpty_bne]; done)), H', ⟨by have := HJ3.out; have := HJ8.out; have := HK3.out; have := HJ12.out; omega⟩, by repeat (first | exact Drawn0.refl _ | apply Drawn0.step)⟩
                                · rw [if_neg c32] at H
                                  exact absurd H (by simp)
                              · rw [if_neg c31] at H
                                exact absurd H (by simp)
                            · rw [if_neg c30] at H
                              exact absurd H (by simp)
                        · rw [if_neg c25] at H
                          exact absurd H (by simp)
                      · rw [if_neg c24] at H
                        exact absurd H (by simp)
              · rw [if_neg c12] at H
                have c12b0 : decide (x9_3 < (x0_8.size : Int)) = false := decide_eq_false c12
                clear c12
                simp only [Option.some.injEq, Prod.mk.injEq] at H
                obtain ⟨rfl, rfl⟩ := H
                go_wp2
                go_ret2
                exact ⟨by first | rfl | (simp; done) | (simp [*]; done) | (simp [wrap64]; done) | (simp [isEmpty_bne]; done), by repeat (first | exact Drawn0.refl _ | apply Drawn0.step)⟩

end Go.Proofs.YtkpceagbjodbbaaDoor.PA
