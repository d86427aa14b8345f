-- Printed by a program of this session (wip/xprint.py) for this claim: Lean checks it.
import Derived.Test.YtkpceagbjodbbaaDoorPA0
import Derived.Test.YtkpceagbjodbbaaDoorPA16
namespace Go.Proofs.YtkpceagbjodbbaaDoor.PA
open Go.RowKit Go.Proofs.YtkpceagbjodbbaaDoor.Ext Go.Proofs.YtkpceagbjodbbaaDoorW.PrintWords Go.Proofs.YtkpceagbjodbbaaDoorW.PrintLast Go.Proofs.YtkpceagbjodbbaaDoorW.PrintMore
attribute [local go_sem] max2_int min2_int max_two min_two max_three min_three max_four min_four   -- for this text's walks alone
set_option linter.unusedVariables false
set_option linter.unusedSimpArgs false

/-! ### scholiastref02_Unquote: function 18 -/
mutual
def scholiastref02_Unquote.j0 : Nat → ByteArray → ByteArray → Bool → Option (ByteArray × Int × Int)
  | 0, _, _, _ => none
  | k + 1, x0, x5, x18 => if x18 = true then (scholiastref02_Unquote.l0 k x0 x5 1) else (if (x0.size : Int) = 0 then (scholiastref02_Unquote.j3 k x0 x5 true) else (if 0 < (x0.size : Int) then (scholiastref02_Unquote.j3 k x0 x5 ((bt x0 0) != 34)) else (none)))
def scholiastref02_Unquote.l0 : Nat → ByteArray → ByteArray → Int → Option (ByteArray × Int × Int)
  | 0, _, _, _ => none
  | k + 1, x0, x5, x6 => if x6 < (x0.size : Int) then (if 0 ≤ x6 then (if (bt x0 x6) = 96 then (scholiastref02_Unquote.j2 k x0 x5 x6 ((wrap64 (x6 + 1)) == (x0.size : Int))) else (scholiastref02_Unquote.j2 k x0 x5 x6 false)) else (none)) else (some ((⟨#[]⟩ : ByteArray), 106, 0))
def scholiastref02_Unquote.j2 : Nat → ByteArray → ByteArray → Int → Bool → Option (ByteArray × Int × Int)
  | 0, _, _, _, _ => none
  | k + 1, x0, x5, x6, x35 => if x35 = true then (some (x5, 0, 0)) else (if 0 ≤ x6 then (if x6 < (x0.size : Int) then (if (bt x0 x6) = 96 then (some ((⟨#[]⟩ : ByteArray), 106, 0)) else (if (bt x0 x6) = 13 then (scholiastref02_Unquote.l0 k x0 x5 (wrap64 (x6 + 1))) else (if x6 ≤ (wrap64 (x6 + 1)) then (if (wrap64 (x6 + 1)) ≤ (x0.size : Int) then (if x5.size + (x0.extract (x6 : Int).toNat ((wrap64 (x6 + 1)) : Int).toNat).size ≤ 9223372036854775807 then (scholiastref02_Unquote.l0 k x0 (x5 ++ (x0.extract (x6 : Int).toNat ((wrap64 (x6 + 1)) : Int).toNat)) (wrap64 (x6 + 1))) else (none)) else (none)) else (none)))) else (none)) else (none))
def scholiastref02_Unquote.j3 : Nat → ByteArray → ByteArray → Bool → Option (ByteArray × Int × Int)
  | 0, _, _, _ => none
  | k + 1, x0, x5, x59 => if x59 = true then (some ((⟨#[]⟩ : ByteArray), 106, 0)) else (scholiastref02_Unquote.l1 k x0 x5 1)
def scholiastref02_Unquote.l1 : Nat → ByteArray → ByteArray → Int → Option (ByteArray × Int × Int)
  | 0, _, _, _ => none
  | k + 1, x0, x5, x7 => if x7 < (x0.size : Int) then (if 0 ≤ x7 then (scholiastref02_Unquote.j5 k x0 x5 x7 ((bt x0 x7) != 10)) else (none)) else (scholiastref02_Unquote.j5 k x0 x5 x7 false)
def scholiastref02_Unquote.j5 : Nat → ByteArray → ByteArray → Int → Bool → Option (ByteArray × Int × Int)
  | 0, _, _, _, _ => none
  | k + 1, x0, x5, x7, x69 => if x69 = true then (if 0 ≤ x7 then (if x7 < (x0.size : Int) then (if (bt x0 x7) = 34 then (if (wrap64 (x7 + 1)) = (x0.size : Int) then (some (x5, 0, 0)) else (some ((⟨#[]⟩ : ByteArray), 106, 0))) else (if (bt x0 x7) = 92 then ((scholiastref02_Escape.f k x0 x7 34).bind fun bt219 => (if bt219.2.2 = 0 then (some ((⟨#[]⟩ : ByteArray), 108, x7)) else (if x5.size + bt219.2.1.size ≤ 9223372036854775807 then (scholiastref02_Unquote.l1 k x0 (x5 ++ bt219.2.1) (wrap64 (x7 + bt219.2.2))) else (none)))) else (if x7 ≤ (wrap64 (x7 + 1)) then (if (wrap64 (x7 + 1)) ≤ (x0.size : Int) then (if x5.size + (x0.extract (x7 : Int).toNat ((wrap64 (x7 + 1)) : Int).toNat).size ≤ 9223372036854775807 then (scholiastref02_Unquote.l1 k x0 (x5 ++ (x0.extract (x7 : Int).toNat ((wrap64 (x7 + 1)) : Int).toNat)) (wrap64 (x7 + 1))) else (none)) else (none)) else (none)))) else (none)) else (none)) else (some ((⟨#[]⟩ : ByteArray), 106, 0))
end
def scholiastref02_Unquote.f (k : Nat) (a0 : ByteArray) : Option (ByteArray × Int × Int) := if (a0.size : Int) > 0 then (if 0 < (a0.size : Int) then (scholiastref02_Unquote.j0 k a0 (⟨#[]⟩ : ByteArray) ((bt a0 0) == 96)) else (none)) else (scholiastref02_Unquote.j0 k a0 (⟨#[]⟩ : ByteArray) false)
theorem scholiastref02_Unquote.mono_l : ∀ k, (∀ y0 y1 y2, LeO (scholiastref02_Unquote.j0 k y0 y1 y2) (scholiastref02_Unquote.j0 (k + 1) y0 y1 y2)) ∧ (∀ y0 y1 y2, LeO (scholiastref02_Unquote.l0 k y0 y1 y2) (scholiastref02_Unquote.l0 (k + 1) y0 y1 y2)) ∧ (∀ y0 y1 y2 y3, LeO (scholiastref02_Unquote.j2 k y0 y1 y2 y3) (scholiastref02_Unquote.j2 (k + 1) y0 y1 y2 y3)) ∧ (∀ y0 y1 y2, LeO (scholiastref02_Unquote.j3 k y0 y1 y2) (scholiastref02_Unquote.j3 (k + 1) y0 y1 y2)) ∧ (∀ y0 y1 y2, LeO (scholiastref02_Unquote.l1 k y0 y1 y2) (scholiastref02_Unquote.l1 (k + 1) y0 y1 y2)) ∧ (∀ y0 y1 y2 y3, LeO (scholiastref02_Unquote.j5 k y0 y1 y2 y3) (scholiastref02_Unquote.j5 (k + 1) y0 y1 y2 y3))
  | 0 => ⟨fun _ _ _ r h => by simp [scholiastref02_Unquote.j0] at h, fun _ _ _ r h => by simp [scholiastref02_Unquote.l0] at h, fun _ _ _ _ r h => by simp [scholiastref02_Unquote.j2] at h, fun _ _ _ r h => by simp [scholiastref02_Unquote.j3] at h, fun _ _ _ r h => by simp [scholiastref02_Unquote.l1] at h, fun _ _ _ _ r h => by simp [scholiastref02_Unquote.j5] at h⟩
  | k + 1 => by
    obtain ⟨ih0, ih1, ih2, ih3, ih4, ih5⟩ := scholiastref02_Unquote.mono_l k
    refine ⟨?_, ?_, ?_, ?_, ?_, ?_⟩
    · intro y0 y1 y2
      unfold scholiastref02_Unquote.j0
      repeat' first
      | (with_reducible exact ih0 _ _ _)
      | (with_reducible exact ih1 _ _ _)
      | (with_reducible exact ih2 _ _ _ _)
      | (with_reducible exact ih3 _ _ _)
      | (with_reducible exact ih4 _ _ _)
      | (with_reducible exact ih5 _ _ _ _)
      | (with_reducible exact scholiastref02_Escape.mono _ _ _ _)
      | (with_reducible exact LeO.refl _)
      | (with_reducible exact LeO.none _)
      | (with_reducible refine LeO.ite ?_ ?_)
      | (with_reducible refine LeO.bind ?_ (fun _ => ?_))
      | exact ih0 _ _ _
      | exact ih1 _ _ _
      | exact ih2 _ _ _ _
      | exact ih3 _ _ _
      | exact ih4 _ _ _
      | exact ih5 _ _ _ _
      | exact scholiastref02_Escape.mono _ _ _ _
      | exact LeO.none _
      | refine LeO.ite ?_ ?_
      | refine LeO.bind ?_ (fun _ => ?_)
    · intro y0 y1 y2
      unfold scholiastref02_Unquote.l0
      repeat' first
      | (with_reducible exact ih0 _ _ _)
      | (with_reducible exact ih1 _ _ _)
      | (with_reducible exact ih2 _ _ _ _)
      | (with_reducible exact ih3 _ _ _)
      | (with_reducible exact ih4 _ _ _)
      | (with_reducible exact ih5 _ _ _ _)
      | (with_reducible exact scholiastref02_Escape.mono _ _ _ _)
      | (with_reducible exact LeO.refl _)
      | (with_reducible exact LeO.none _)
      | (with_reducible refine LeO.ite ?_ ?_)
      | (with_reducible refine LeO.bind ?_ (fun _ => ?_))
      | exact ih0 _ _ _
      | exact ih1 _ _ _
      | exact ih2 _ _ _ _
      | exact ih3 _ _ _
      | exact ih4 _ _ _
      | exact ih5 _ _ _ _
      | exact scholiastref02_Escape.mono _ _ _ _
      | exact LeO.none _
      | refine LeO.ite ?_ ?_
      | refine LeO.bind ?_ (fun _ => ?_)
    · intro y0 y1 y2 y3
      unfold scholiastref02_Unquote.j2
      repeat' first
      | (with_reducible exact ih0 _ _ _)
      | (with_reducible exact ih1 _ _ _)
      | (with_reducible exact ih2 _ _ _ _)
      | (with_reducible exact ih3 _ _ _)
      | (with_reducible exact ih4 _ _ _)
      | (with_reducible exact ih5 _ _ _ _)
      | (with_reducible exact scholiastref02_Escape.mono _ _ _ _)
      | (with_reducible exact LeO.refl _)
      | (with_reducible exact LeO.none _)
      | (with_reducible refine LeO.ite ?_ ?_)
      | (with_reducible refine LeO.bind ?_ (fun _ => ?_))
      | exact ih0 _ _ _
      | exact ih1 _ _ _
      | exact ih2 _ _ _ _
      | exact ih3 _ _ _
      | exact ih4 _ _ _
      | exact ih5 _ _ _ _
      | exact scholiastref02_Escape.mono _ _ _ _
      | exact LeO.none _
      | refine LeO.ite ?_ ?_
      | refine LeO.bind ?_ (fun _ => ?_)
    · intro y0 y1 y2
      unfold scholiastref02_Unquote.j3
      repeat' first
      | (with_reducible exact ih0 _ _ _)
      | (with_reducible exact ih1 _ _ _)
      | (with_reducible exact ih2 _ _ _ _)
      | (with_reducible exact ih3 _ _ _)
      | (with_reducible exact ih4 _ _ _)
      | (with_reducible exact ih5 _ _ _ _)
      | (with_reducible exact scholiastref02_Escape.mono _ _ _ _)
      | (with_reducible exact LeO.refl _)
      | (with_reducible exact LeO.none _)
      | (with_reducible refine LeO.ite ?_ ?_)
      | (with_reducible refine LeO.bind ?_ (fun _ => ?_))
      | exact ih0 _ _ _
      | exact ih1 _ _ _
      | exact ih2 _ _ _ _
      | exact ih3 _ _ _
      | exact ih4 _ _ _
      | exact ih5 _ _ _ _
      | exact scholiastref02_Escape.mono _ _ _ _
      | exact LeO.none _
      | refine LeO.ite ?_ ?_
      | refine LeO.bind ?_ (fun _ => ?_)
    · intro y0 y1 y2
      unfold scholiastref02_Unquote.l1
      repeat' first
      | (with_reducible exact ih0 _ _ _)
      | (with_reducible exact ih1 _ _ _)
      | (with_reducible exact ih2 _ _ _ _)
      | (with_reducible exact ih3 _ _ _)
      | (with_reducible exact ih4 _ _ _)
      | (with_reducible exact ih5 _ _ _ _)
      | (with_reducible exact scholiastref02_Escape.mono _ _ _ _)
      | (with_reducible exact LeO.refl _)
      | (with_reducible exact LeO.none _)
      | (with_reducible refine LeO.ite ?_ ?_)
      | (with_reducible refine LeO.bind ?_ (fun _ => ?_))
      | exact ih0 _ _ _
      | exact ih1 _ _ _
      | exact ih2 _ _ _ _
      | exact ih3 _ _ _
      | exact ih4 _ _ _
      | exact ih5 _ _ _ _
      | exact scholiastref02_Escape.mono _ _ _ _
      | exact LeO.none _
      | refine LeO.ite ?_ ?_
      | refine LeO.bind ?_ (fun _ => ?_)
    · intro y0 y1 y2 y3
      unfold scholiastref02_Unquote.j5
      repeat' first
      | (with_reducible exact ih0 _ _ _)
      | (with_reducible exact ih1 _ _ _)
      | (with_reducible exact ih2 _ _ _ _)
      | (with_reducible exact ih3 _ _ _)
      | (with_reducible exact ih4 _ _ _)
      | (with_reducible exact ih5 _ _ _ _)
      | (with_reducible exact scholiastref02_Escape.mono _ _ _ _)
      | (with_reducible exact LeO.refl _)
      | (with_reducible exact LeO.none _)
      | (with_reducible refine LeO.ite ?_ ?_)
      | (with_reducible refine LeO.bind ?_ (fun _ => ?_))
      | exact ih0 _ _ _
      | exact ih1 _ _ _
      | exact ih2 _ _ _ _
      | exact ih3 _ _ _
      | exact ih4 _ _ _
      | exact ih5 _ _ _ _
      | exact scholiastref02_Escape.mono _ _ _ _
      | exact LeO.none _
      | refine LeO.ite ?_ ?_
      | refine LeO.bind ?_ (fun _ => ?_)
theorem scholiastref02_Unquote.mono : ∀ a0 k, LeO (scholiastref02_Unquote.f k a0) (scholiastref02_Unquote.f (k + 1) a0) := by
  intro a0 k
  obtain ⟨ih0, ih1, ih2, ih3, ih4, ih5⟩ := scholiastref02_Unquote.mono_l k
  unfold scholiastref02_Unquote.f
  repeat' first
      | (with_reducible exact ih0 _ _ _)
      | (with_reducible exact ih1 _ _ _)
      | (with_reducible exact ih2 _ _ _ _)
      | (with_reducible exact ih3 _ _ _)
      | (with_reducible exact ih4 _ _ _)
      | (with_reducible exact ih5 _ _ _ _)
      | (with_reducible exact scholiastref02_Escape.mono _ _ _ _)
      | (with_reducible exact LeO.refl _)
      | (with_reducible exact LeO.none _)
      | (with_reducible refine LeO.ite ?_ ?_)
      | (with_reducible refine LeO.bind ?_ (fun _ => ?_))
      | exact ih0 _ _ _
      | exact ih1 _ _ _
      | exact ih2 _ _ _ _
      | exact ih3 _ _ _
      | exact ih4 _ _ _
      | exact ih5 _ _ _ _
      | exact scholiastref02_Escape.mono _ _ _ _
      | exact LeO.none _
      | refine LeO.ite ?_ ?_
      | refine LeO.bind ?_ (fun _ => ?_)
set_option maxHeartbeats 8000000 in
set_option maxRecDepth 100000 in
theorem scholiastref02_Unquote.calls (k : Nat) (a0 : ByteArray) (r1 : ByteArray) (r2 : Int) (r3 : Int) (w : World) (h : scholiastref02_Unquote.f k a0 = some (r1, r2, r3)) :
    Calls Tryd.prog 18 #[.string a0] w fun e w' => e = .returned (.tuple #[.string r1, .int .i64 r2, .int .i64 r3]) ∧ Below w.heap.size w w' := by
  have HB := Aside0.mk (Below.refl w.heap.size w)
  have H : (if (a0.size : Int) > 0 then (if 0 < (a0.size : Int) then (scholiastref02_Unquote.j0 k a0 (⟨#[]⟩ : ByteArray) ((bt a0 0) == 96)) else (none)) else (scholiastref02_Unquote.j0 k a0 (⟨#[]⟩ : ByteArray) false)) = some (r1, r2, r3) := h
  clear h
  have HC2 := Aside0.mk H
  clear H
  go_enter Tryd.func18, Tryd.ntmps18
  go_upto_region 2 with (fail)
  go_cut [18] (fun v18 wc => ∃ (kq : Nat) (x18_1 : Bool), v18 = .bool x18_1 ∧ Aside0 (scholiastref02_Unquote.j0 kq a0 (⟨#[]⟩ : ByteArray) x18_1 = some (r1, r2, r3)) ∧ Aside0 (kq ≤ k) ∧ Aside0 (Below w.heap.size w wc))
  case first =>
    have H := HC2.out
    clear HC2
    by_cases c3 : (a0.size : Int) > 0
    · rw [if_pos c3] at H
      have c3b0 : decide (0 < (a0.size : Int)) = true := decide_eq_true c3
      have c3b1 : decide (0 < a0.size) = true := decide_eq_true (by omega)
      clear c3
      (first | rw [c3b0] | (simp only [i64_w, i32_w]; rw [c3b0]) | skip)
      by_cases c4 : 0 < (a0.size : Int)
      · rw [if_pos c4] at H
        have c4b0 : decide (0 < (a0.size : Int)) = true := decide_eq_true c4
        have c4b1 : decide (0 < a0.size) = true := decide_eq_true (by omega)
        clear c4
        have H' := Aside0.mk H
        clear H
        have p5 : 0 ≤ (0 : Int) := (by omega)
        have q5 : 0 < a0.size := (by have : (0 : Int) < (a0.size : Int) := of_decide_eq_true (by first | (with_reducible assumption) | assumption); omega)
        have hx5 : ∀ h : 0 < a0.size, ((a0[0]'h).toNat : Int) = bt a0 0 := bt_at a0 0
        clear p5
        have qi5 : (0 < (a0.size : Int)) = True := eq_true (of_decide_eq_true (by first | (with_reducible assumption) | assumption))
        replace q5 := eq_true q5
        go_wp2
        go_meet
        case rel => exact ⟨_, (((bt a0 0) == 96)), (by first | rfl | (simp; done) | (simp [*]; done) | (simp [wrap64]; done) | (simp [isEmpty_bne]; done)), H', ⟨by first | omega | exact Nat.le_refl _⟩, ⟨by repeat (first | (with_reducible first | exact HB.out | apply below_alloc | apply pw_below_drewN | apply below_drew1) | exact HB.out)⟩⟩
      · rw [if_neg c4] at H
        exact absurd H (by simp)
    · rw [if_neg c3] at H
      have c3b0 : decide (0 < (a0.size : Int)) = false := decide_eq_false c3
      have c3b1 : decide (0 < a0.size) = false := decide_eq_false (by omega)
      clear c3
      (first | rw [c3b0] | (simp only [i64_w, i32_w]; rw [c3b0]) | skip)
      have H' := Aside0.mk H
      clear H
      go_wp2
      go_meet
      case rel => exact ⟨_, (false), (by first | rfl | (simp; done) | (simp [*]; done) | (simp [wrap64]; done) | (simp [isEmpty_bne]; done)), H', ⟨by first | omega | exact Nat.le_refl _⟩, ⟨by repeat (first | (with_reducible first | exact HB.out | apply below_alloc | apply pw_below_drewN | apply below_drew1) | exact HB.out)⟩⟩
  case rest =>
    clear HC2
    try clear c1
    try clear p2
    try clear c3
    try clear c3b0
    try clear c3b1
    try clear c4
    try clear c4b0
    try clear c4b1
    try clear p5
    try clear q5
    try clear hx5
    try clear qi5
    try clear p5
    try clear q5
    obtain ⟨kq, x18_1, rfl, HA, HJ1, HB⟩ := hcut
    cases kq with
    | zero => exact absurd HA.out (by simp [scholiastref02_Unquote.j0])
    | succ kj1 =>
      have H := HA.out
      clear HA
      simp only [scholiastref02_Unquote.j0] at H
      by_cases c6 : x18_1 = true
      · subst c6
        have H1 : (scholiastref02_Unquote.l0 kj1 a0 (⟨#[]⟩ : ByteArray) 1) = some (r1, r2, r3) := by rw [if_pos rfl] at H; exact H
        clear H
        have H := H1
        clear H1
        have H' := Aside0.mk H
        clear H
        go_wp2
        go_loopg [5, 6] kj1 (fun kq v5 v6 w' => ∃ (x5_2 : ByteArray) (x6_2 : Int), v5 = .string x5_2 ∧ v6 = .int .i64 x6_2 ∧ Aside0 (scholiastref02_Unquote.l0 kq a0 x5_2 x6_2 = some (r1, r2, r3)) ∧ Aside0 (kq ≤ kj1) ∧ Aside0 (Below w.heap.size w w'))
        case atStart => exact ⟨((⟨#[]⟩ : ByteArray)), (1), (by first | rfl | (simp; done) | (simp [*]; done) | (simp [wrap64]; done) | (simp [isEmpty_bne]; done)), (by first | rfl | (simp; done) | (simp [*]; done) | (simp [wrap64]; done) | (simp [isEmpty_bne]; done)), H', ⟨Nat.le_refl _⟩, ⟨by repeat (first | (with_reducible first | exact HB.out | apply below_alloc | apply pw_below_drewN | apply below_drew1) | exact HB.out)⟩⟩
        case round =>
          clear H'
          try clear c1
          try clear p2
          try clear c3
          try clear c3b0
          try clear c3b1
          try clear c4
          try clear c4b0
          try clear c4b1
          try clear p5
          try clear q5
          try clear hx5
          try clear qi5
          try clear c6
          try clear p6
          try clear p2
          try clear p5
          try clear q5
          obtain ⟨x5_2, x6_2, rfl, rfl, HA, HK2, HB⟩ := hrel
          cases gk with
          | zero => exact absurd HA.out (by simp [scholiastref02_Unquote.l0])
          | succ k2 =>
            have H := HA.out
            clear HA
            simp only [scholiastref02_Unquote.l0] at H
            by_cases c7 : x6_2 < (a0.size : Int)
            · rw [if_pos c7] at H
              have c7b0 : decide (x6_2 < (a0.size : Int)) = true := decide_eq_true c7
              clear c7
              have HC8 := Aside0.mk H
              clear H
              go_upto_region 6 with (fail)
              go_cut [35] (fun v35 wc => ∃ (kq : Nat) (x35_7 : Bool), v35 = .bool x35_7 ∧ Aside0 (scholiastref02_Unquote.j2 kq a0 x5_2 x6_2 x35_7 = some (r1, r2, r3)) ∧ Aside0 (kq ≤ k2) ∧ Aside0 (Below w.heap.size w wc))
              case first =>
                have H := HC8.out
                clear HC8
                by_cases c9 : 0 ≤ x6_2
                · rw [if_pos c9] at H
                  have c9b0 : decide (0 ≤ x6_2) = true := decide_eq_true c9
                  clear c9
                  (first | rw [c9b0] | (simp only [i64_w, i32_w]; rw [c9b0]) | skip)
                  by_cases c11 : (bt a0 x6_2) = 96
                  · rw [if_pos c11] at H
                    have c11b0 : ((bt a0 x6_2) == 96) = true := beq_iff_eq.mpr c11
                    have c11b1 : ((bt a0 x6_2) != 96) = false := bne_eq_false_iff_eq.mpr c11
                    clear c11
                    have H' := Aside0.mk H
                    clear H
                    have p10 : 0 ≤ (x6_2 : Int) := of_decide_eq_true (by first | (with_reducible assumption) | assumption)
                    have q10 : x6_2 < (a0.size : Int) := of_decide_eq_true (by first | (with_reducible assumption) | assumption)
                    have hx10 := bt_at a0 x6_2
                    replace p10 := eq_true p10
                    replace q10 := eq_true q10
                    go_wp2
                    go_meet
                    case rel => exact ⟨_, (((wrap64 (x6_2 + 1)) == (a0.size : Int))), (by first | rfl | (simp; done) | (simp [*]; done) | (simp [wrap64]; done) | (simp [isEmpty_bne]; done)), H', ⟨by have := HJ1.out; have := HK2.out; first | omega | exact Nat.le_refl _⟩, ⟨by repeat (first | (with_reducible first | exact HB.out | apply below_alloc | apply pw_below_drewN | apply below_drew1) | exact HB.out)⟩⟩
                  · rw [if_neg c11] at H
                    have c11b0 : ((bt a0 x6_2) == 96) = false := beq_eq_false_iff_ne.mpr c11
                    have c11b1 : ((bt a0 x6_2) != 96) = true := bne_iff_ne.mpr c11
                    have H' := Aside0.mk H
                    clear H
                    have p10 : 0 ≤ (x6_2 : Int) := of_decide_eq_true (by first | (with_reducible assumption) | assumption)
                    have q10 : x6_2 < (a0.size : Int) := of_decide_eq_true (by first | (with_reducible assumption) | assumption)
                    have hx10 := bt_at a0 x6_2
                    replace p10 := eq_true p10
                    replace q10 := eq_true q10
                    go_wp2
                    go_meet
                    case rel => exact ⟨_, (false), (by first | rfl | (simp; done) | (simp [*]; done) | (simp [wrap64]; done) | (simp [isEmpty_bne]; done)), H', ⟨by have := HJ1.out; have := HK2.out; first | omega | exact Nat.le_refl _⟩, ⟨by repeat (first | (with_reducible first | exact HB.out | apply below_alloc | apply pw_below_drewN | apply below_drew1) | exact HB.out)⟩⟩
                · rw [if_neg c9] at H
                  exact absurd H (by simp)
              case rest =>
                clear HC8
                try clear c1
                try clear p1
                try clear q1
                try clear hx1
                try clear p2
                try clear c3
                try clear c3b0
                try clear c3b1
                try clear c4
                try clear c4b0
                try clear c4b1
                try clear p5
                try clear q5
                try clear hx5
                try clear qi5
                try clear c6
                try clear p6
                try clear c7
                try clear c7b0
                try clear c9
                try clear c9b0
                try clear p10
                try clear q10
                try clear hx10
                try clear c11
                try clear c11b0
                try clear c11b1
                try clear p10
                try clear p2
                try clear p5
                try clear p6
                try clear q10
                try clear q5
                obtain ⟨kq, x35_7, rfl, HA, HJ7, HB⟩ := hcut
                cases kq with
                | zero => exact absurd HA.out (by simp [scholiastref02_Unquote.j2])
                | succ kj7 =>
                  have H := HA.out
                  clear HA
                  simp only [scholiastref02_Unquote.j2] at H
                  by_cases c12 : x35_7 = true
                  · subst c12
                    have H1 : (some (x5_2, 0, 0)) = some (r1, r2, r3) := by rw [if_pos rfl] at H; exact H
                    clear H
                    have H := H1
                    clear H1
                    simp only [Option.some.injEq, Prod.mk.injEq] at H
                    obtain ⟨rfl, rfl, rfl⟩ := H
                    go_wp2
                    go_ret3
                    exact ⟨by first | rfl | (simp [errW_none, errW_some] <;> rfl) | (simp [*, errW_none, errW_some] <;> rfl), by repeat (first | (with_reducible first | exact HB.out | apply below_alloc | apply pw_below_drewN | apply below_drew1) | exact HB.out)⟩
                  · replace c12 := Bool.eq_false_iff.mpr c12
                    subst c12
                    have H1 : (if 0 ≤ x6_2 then (if x6_2 < (a0.size : Int) then (if (bt a0 x6_2) = 96 then (some ((⟨#[]⟩ : ByteArray), 106, 0)) else (if (bt a0 x6_2) = 13 then (scholiastref02_Unquote.l0 kj7 a0 x5_2 (wrap64 (x6_2 + 1))) else (if x6_2 ≤ (wrap64 (x6_2 + 1)) then (if (wrap64 (x6_2 + 1)) ≤ (a0.size : Int) then (if x5_2.size + (a0.extract (x6_2 : Int).toNat ((wrap64 (x6_2 + 1)) : Int).toNat).size ≤ 9223372036854775807 then (scholiastref02_Unquote.l0 kj7 a0 (x5_2 ++ (a0.extract (x6_2 : Int).toNat ((wrap64 (x6_2 + 1)) : Int).toNat)) (wrap64 (x6_2 + 1))) else (none)) else (none)) else (none)))) else (none)) else (none)) = some (r1, r2, r3) := by rw [if_neg (show ¬ (false = true) by decide)] at H; exact H
                    clear H
                    have H := H1
                    clear H1
                    by_cases c13 : 0 ≤ x6_2
                    · rw [if_pos c13] at H
                      have c13b0 : decide (0 ≤ x6_2) = true := decide_eq_true c13
                      clear c13
                      by_cases c14 : x6_2 < (a0.size : Int)
                      · rw [if_pos c14] at H
                        have c14b0 : decide (x6_2 < (a0.size : Int)) = true := decide_eq_true c14
                        clear c14
                        by_cases c16 : (bt a0 x6_2) = 96
                        · rw [if_pos c16] at H
                          have c16b0 : ((bt a0 x6_2) == 96) = true := beq_iff_eq.mpr c16
                          have c16b1 : ((bt a0 x6_2) != 96) = false := bne_eq_false_iff_eq.mpr c16
                          clear c16
                          simp only [Option.some.injEq, Prod.mk.injEq] at H
                          obtain ⟨rfl, rfl, rfl⟩ := H
                          have p15 : 0 ≤ (x6_2 : Int) := of_decide_eq_true (by first | (with_reducible assumption) | assumption)
                          have q15 : x6_2 < (a0.size : Int) := of_decide_eq_true (by first | (with_reducible assumption) | assumption)
                          have hx15 := bt_at a0 x6_2
                          replace p15 := eq_true p15
                          replace q15 := eq_true q15
                          go_wp2
                          go_ret3
                          exact ⟨by first | rfl | (simp [errW_none, errW_some] <;> rfl) | (simp [*, errW_none, errW_some] <;> rfl), by repeat (first | (with_reducible first | exact HB.out | apply below_alloc | apply pw_below_drewN | apply below_drew1) | exact HB.out)⟩
                        · rw [if_neg c16] at H
                          have c16b0 : ((bt a0 x6_2) == 96) = false := beq_eq_false_iff_ne.mpr c16
                          have c16b1 : ((bt a0 x6_2) != 96) = true := bne_iff_ne.mpr c16
                          by_cases c18 : (bt a0 x6_2) = 13
                          · rw [if_pos c18] at H
                            have c18b0 : ((bt a0 x6_2) == 13) = true := beq_iff_eq.mpr c18
                            have c18b1 : ((bt a0 x6_2) != 13) = false := bne_eq_false_iff_eq.mpr c18
                            clear c18
                            have H' := Aside0.mk H
                            clear H
                            have p15 : 0 ≤ (x6_2 : Int) := of_decide_eq_true (by first | (with_reducible assumption) | assumption)
                            have q15 : x6_2 < (a0.size : Int) := of_decide_eq_true (by first | (with_reducible assumption) | assumption)
                            have hx15 := bt_at a0 x6_2
                            replace p15 := eq_true p15
                            replace q15 := eq_true q15
                            have p17 : 0 ≤ (x6_2 : Int) := of_decide_eq_true (by first | (with_reducible assumption) | assumption)
                            have q17 : x6_2 < (a0.size : Int) := of_decide_eq_true (by first | (with_reducible assumption) | assumption)
                            have hx17 := bt_at a0 x6_2
                            replace p17 := eq_true p17
                            replace q17 := eq_true q17
                            go_wp2
                            go_roundg kj7
                            case measure => have := HJ1.out; have := HK2.out; have := HJ7.out; omega
                            case rel => exact ⟨(x5_2), (wrap64 (x6_2 + 1)), (by first | rfl | (simp; done) | (simp [*]; done) | (simp [wrap64]; done) | (simp [isEmpty_bne]; done)), (by first | rfl | (simp; done) | (simp [*]; done) | (simp [wrap64]; done) | (simp [isEmpty_bne]; done)), H', ⟨by have := HJ1.out; have := HK2.out; have := HJ7.out; omega⟩, ⟨by repeat (first | (with_reducible first | exact HB.out | apply below_alloc | apply pw_below_drewN | apply below_drew1) | exact HB.out)⟩⟩
                          · rw [if_neg c18] at H
                            have c18b0 : ((bt a0 x6_2) == 13) = false := beq_eq_false_iff_ne.mpr c18
                            have c18b1 : ((bt a0 x6_2) != 13) = true := bne_iff_ne.mpr c18
                            have c19b0 := eq_true (of_decide_eq_true (by first | (with_reducible assumption) | assumption) : 0 ≤ x6_2)
                            by_cases c20 : x6_2 ≤ (wrap64 (x6_2 + 1))
                            · rw [if_pos c20] at H
                              have c20b0 := eq_true c20
                              have c20b1 : decide (x6_2 ≤ (wrap64 (x6_2 + 1))) = true := decide_eq_true c20
                              by_cases c21 : (wrap64 (x6_2 + 1)) ≤ (a0.size : Int)
                              · rw [if_pos c21] at H
                                have c21b0 := eq_true c21
                                have c21b1 : decide ((wrap64 (x6_2 + 1)) ≤ (a0.size : Int)) = true := decide_eq_true c21
                                by_cases c22 : x5_2.size + (a0.extract (x6_2 : Int).toNat ((wrap64 (x6_2 + 1)) : Int).toNat).size ≤ 9223372036854775807
                                · rw [if_pos c22] at H
                                  have c22b0 := eq_true c22
                                  have c22b1 : decide (x5_2.size + (a0.extract (x6_2 : Int).toNat ((wrap64 (x6_2 + 1)) : Int).toNat).size ≤ 9223372036854775807) = true := decide_eq_true c22
                                  try have c22b2 : (9223372036854775807 < x5_2.size + (a0.extract (x6_2 : Int).toNat ((wrap64 (x6_2 + 1)) : Int).toNat).size) = False := eq_false (Nat.not_lt.2 c22)
                                  have H' := Aside0.mk H
                                  clear H
                                  have p15 : 0 ≤ (x6_2 : Int) := of_decide_eq_true (by first | (with_reducible assumption) | assumption)
                                  have q15 : x6_2 < (a0.size : Int) := of_decide_eq_true (by first | (with_reducible assumption) | assumption)
                                  have hx15 := bt_at a0 x6_2
                                  replace p15 := eq_true p15
                                  replace q15 := eq_true q15
                                  have p17 : 0 ≤ (x6_2 : Int) := of_decide_eq_true (by first | (with_reducible assumption) | assumption)
                                  have q17 : x6_2 < (a0.size : Int) := of_decide_eq_true (by first | (with_reducible assumption) | assumption)
                                  have hx17 := bt_at a0 x6_2
                                  replace p17 := eq_true p17
                                  replace q17 := eq_true q17
                                  go_wp2
                                  go_roundg kj7
                                  case measure => have := HJ1.out; have := HK2.out; have := HJ7.out; omega
                                  case rel => exact ⟨(x5_2 ++ (a0.extract (x6_2 : Int).toNat ((wrap64 (x6_2 + 1)) : Int).toNat)), (wrap64 (x6_2 + 1)), (by first | rfl | (simp; done) | (simp [*]; done) | (simp [wrap64]; done) | (simp [isEmpty_bne]; done)), (by first | rfl | (simp; done) | (simp [*]; done) | (simp [wrap64]; done) | (simp [isEmpty_bne]; done)), H', ⟨by have := HJ1.out; have := HK2.out; have := HJ7.out; omega⟩, ⟨by repeat (first | (with_reducible first | exact HB.out | apply below_alloc | apply pw_below_drewN | apply below_drew1) | exact HB.out)⟩⟩
                                · rw [if_neg c22] at H
                                  exact absurd H (by simp)
                              · rw [if_neg c21] at H
                                exact absurd H (by simp)
                            · rw [if_neg c20] at H
                              exact absurd H (by simp)
                      · rw [if_neg c14] at H
                        exact absurd H (by simp)
                    · rw [if_neg c13] at H
                      exact absurd H (by simp)
            · rw [if_neg c7] at H
              have c7b0 : decide (x6_2 < (a0.size : Int)) = false := decide_eq_false c7
              clear c7
              simp only [Option.some.injEq, Prod.mk.injEq] at H
              obtain ⟨rfl, rfl, rfl⟩ := H
              go_wp2
              go_ret3
              exact ⟨by first | rfl | (simp [errW_none, errW_some] <;> rfl) | (simp [*, errW_none, errW_some] <;> rfl), by repeat (first | (with_reducible first | exact HB.out | apply below_alloc | apply pw_below_drewN | apply below_drew1) | exact HB.out)⟩
      · replace c6 := Bool.eq_false_iff.mpr c6
        subst c6
        have H1 : (if (a0.size : Int) = 0 then (scholiastref02_Unquote.j3 kj1 a0 (⟨#[]⟩ : ByteArray) true) else (if 0 < (a0.size : Int) then (scholiastref02_Unquote.j3 kj1 a0 (⟨#[]⟩ : ByteArray) ((bt a0 0) != 34)) else (none))) = some (r1, r2, r3) := by rw [if_neg (show ¬ (false = true) by decide)] at H; exact H
        clear H
        have H := H1
        clear H1
        have HC23 := Aside0.mk H
        clear H
        go_upto_region 12 with (fail)
        go_cut [59] (fun v59 wc => ∃ (kq : Nat) (x59_22 : Bool), v59 = .bool x59_22 ∧ Aside0 (scholiastref02_Unquote.j3 kq a0 (⟨#[]⟩ : ByteArray) x59_22 = some (r1, r2, r3)) ∧ Aside0 (kq ≤ kj1) ∧ Aside0 (Below w.heap.size w wc))
        case first =>
          have H := HC23.out
          clear HC23
          by_cases c24 : (a0.size : Int) = 0
          · rw [if_pos c24] at H
            have c24b0 : ((a0.size : Int) == 0) = true := beq_iff_eq.mpr c24
            have c24b1 : ((a0.size : Int) != 0) = false := bne_eq_false_iff_eq.mpr c24
            clear c24
            (first | rw [c24b0] | (simp only [i64_w, i32_w]; rw [c24b0]) | skip)
            have H' := Aside0.mk H
            clear H
            go_wp2
            go_meet
            case rel => exact ⟨_, (true), (by first | rfl | (simp; done) | (simp [*]; done) | (simp [wrap64]; done) | (simp [isEmpty_bne]; done)), H', ⟨by have := HJ1.out; first | omega | exact Nat.le_refl _⟩, ⟨by repeat (first | (with_reducible first | exact HB.out | apply below_alloc | apply pw_below_drewN | apply below_drew1) | exact HB.out)⟩⟩
          · rw [if_neg c24] at H
            have c24b0 : ((a0.size : Int) == 0) = false := beq_eq_false_iff_ne.mpr c24
            have c24b1 : ((a0.size : Int) != 0) = true := bne_iff_ne.mpr c24
            (first | rw [c24b0] | (simp only [i64_w, i32_w]; rw [c24b0]) | skip)
            by_cases c25 : 0 < (a0.size : Int)
            · rw [if_pos c25] at H
              have c25b0 : decide (0 < (a0.size : Int)) = true := decide_eq_true c25
              have c25b1 : decide (0 < a0.size) = true := decide_eq_true (by omega)
              clear c25
              have H' := Aside0.mk H
              clear H
              have p26 : 0 ≤ (0 : Int) := (by omega)
              have q26 : 0 < a0.size := (by have : (0 : Int) < (a0.size : Int) := of_decide_eq_true (by first | (with_reducible assumption) | assumption); omega)
              have hx26 : ∀ h : 0 < a0.size, ((a0[0]'h).toNat : Int) = bt a0 0 := bt_at a0 0
              clear p26
              have qi26 : (0 < (a0.size : Int)) = True := eq_true (of_decide_eq_true (by first | (with_reducible assumption) | assumption))
              replace q26 := eq_true q26
              go_wp2
              go_meet
              case rel => exact ⟨_, (((bt a0 0) != 34)), (by first | rfl | (simp; done) | (simp [*]; done) | (simp [wrap64]; done) | (simp [isEmpty_bne]; done)), H', ⟨by have := HJ1.out; first | omega | exact Nat.le_refl _⟩, ⟨by repeat (first | (with_reducible first | exact HB.out | apply below_alloc | apply pw_below_drewN | apply below_drew1) | exact HB.out)⟩⟩
            · rw [if_neg c25] at H
              exact absurd H (by simp)
        case rest =>
          clear HC23
          try clear c1
          try clear p1
          try clear q1
          try clear hx1
          try clear c2
          try clear p2
          try clear q2
          try clear hx2
          try clear qi2
          try clear c3
          try clear c3b0
          try clear c3b1
          try clear c4
          try clear c4b0
          try clear c4b1
          try clear p5
          try clear q5
          try clear hx5
          try clear qi5
          try clear c6
          try clear p6
          try clear c7
          try clear c7b0
          try clear c9
          try clear c9b0
          try clear p10
          try clear q10
          try clear hx10
          try clear c11
          try clear c11b0
          try clear c11b1
          try clear c12
          try clear c13
          try clear c13b0
          try clear c14
          try clear c14b0
          try clear p15
          try clear q15
          try clear hx15
          try clear c16
          try clear c16b0
          try clear c16b1
          try clear p17
          try clear q17
          try clear hx17
          try clear c18
          try clear c18b0
          try clear c18b1
          try clear c19
          try clear c19b0
          try clear c20
          try clear c20b0
          try clear c20b1
          try clear c21
          try clear c21b0
          try clear c21b1
          try clear c22
          try clear c22b0
          try clear c22b1
          try clear c22b2
          try clear c24
          try clear c24b0
          try clear c24b1
          try clear c25
          try clear c25b0
          try clear c25b1
          try clear p26
          try clear q26
          try clear hx26
          try clear qi26
          try clear p1
          try clear p10
          try clear p15
          try clear p17
          try clear p2
          try clear p26
          try clear p5
          try clear p6
          try clear q1
          try clear q10
          try clear q15
          try clear q17
          try clear q26
          try clear q5
          obtain ⟨kq, x59_22, rfl, HA, HJ22, HB⟩ := hcut
          cases kq with
          | zero => exact absurd HA.out (by simp [scholiastref02_Unquote.j3])
          | succ kj22 =>
            have H := HA.out
            clear HA
            simp only [scholiastref02_Unquote.j3] at H
            by_cases c27 : x59_22 = true
            · subst c27
              have H1 : (some ((⟨#[]⟩ : ByteArray), 106, 0)) = some (r1, r2, r3) := by rw [if_pos rfl] at H; exact H
              clear H
              have H := H1
              clear H1
              simp only [Option.some.injEq, Prod.mk.injEq] at H
              obtain ⟨rfl, rfl, rfl⟩ := H
              go_wp2
              go_ret3
              exact ⟨by first | rfl | (simp [errW_none, errW_some] <;> rfl) | (simp [*, errW_none, errW_some] <;> rfl), by repeat (first | (with_reducible first | exact HB.out | apply below_alloc | apply pw_below_drewN | apply below_drew1) | exact HB.out)⟩
            · replace c27 := Bool.eq_false_iff.mpr c27
              subst c27
              have H1 : (scholiastref02_Unquote.l1 kj22 a0 (⟨#[]⟩ : ByteArray) 1) = some (r1, r2, r3) := by rw [if_neg (show ¬ (false = true) by decide)] at H; exact H
              clear H
              have H := H1
              clear H1
              have H' := Aside0.mk H
              clear H
              go_wp2
              go_loopg [5, 7] kj22 (fun kq v5 v7 w' => ∃ (x5_3 : ByteArray) (x7_3 : Int), v5 = .string x5_3 ∧ v7 = .int .i64 x7_3 ∧ Aside0 (scholiastref02_Unquote.l1 kq a0 x5_3 x7_3 = some (r1, r2, r3)) ∧ Aside0 (kq ≤ kj22) ∧ Aside0 (Below w.heap.size w w'))
              case atStart => exact ⟨((⟨#[]⟩ : ByteArray)), (1), (by first | rfl | (simp; done) | (simp [*]; done) | (simp [wrap64]; done) | (simp [isEmpty_bne]; done)), (by first | rfl | (simp; done) | (simp [*]; done) | (simp [wrap64]; done) | (simp [isEmpty_bne]; done)), H', ⟨Nat.le_refl _⟩, ⟨by repeat (first | (with_reducible first | exact HB.out | apply below_alloc | apply pw_below_drewN | apply below_drew1) | exact HB.out)⟩⟩
              case round =>
                clear H'
                try clear c1
                try clear p1
                try clear q1
                try clear hx1
                try clear c2
                try clear p2
                try clear q2
                try clear hx2
                try clear qi2
                try clear c3
                try clear c3b0
                try clear c3b1
                try clear c4
                try clear c4b0
                try clear c4b1
                try clear p5
                try clear q5
                try clear hx5
                try clear qi5
                try clear c6
                try clear p6
                try clear c7
                try clear c7b0
                try clear c9
                try clear c9b0
                try clear p10
                try clear q10
                try clear hx10
                try clear c11
                try clear c11b0
                try clear c11b1
                try clear c12
                try clear c13
                try clear c13b0
                try clear c14
                try clear c14b0
                try clear p15
                try clear q15
                try clear hx15
                try clear c16
                try clear c16b0
                try clear c16b1
                try clear p17
                try clear q17
                try clear hx17
                try clear c18
                try clear c18b0
                try clear c18b1
                try clear c19
                try clear c19b0
                try clear c20
                try clear c20b0
                try clear c20b1
                try clear c21
                try clear c21b0
                try clear c21b1
                try clear c22
                try clear c22b0
                try clear c22b1
                try clear c22b2
                try clear c24
                try clear c24b0
                try clear c24b1
                try clear c25
                try clear c25b0
                try clear c25b1
                try clear p26
                try clear q26
                try clear hx26
                try clear qi26
                try clear c27
                try clear p1
                try clear p10
                try clear p15
                try clear p17
                try clear p2
                try clear p26
                try clear p5
                try clear p6
                try clear q1
                try clear q10
                try clear q15
                try clear q17
                try clear q2
                try clear q26
                try clear q5
                obtain ⟨x5_3, x7_3, rfl, rfl, HA, HK3, HB⟩ := hrel
                cases gk with
                | zero => exact absurd HA.out (by simp [scholiastref02_Unquote.l1])
                | succ k3 =>
                  have H := HA.out
                  clear HA
                  simp only [scholiastref02_Unquote.l1] at H
                  have HC28 := Aside0.mk H
                  clear H
                  go_upto_region 15 with (fail)
                  go_cut [69] (fun v69 wc => ∃ (kq : Nat) (x69_27 : Bool), v69 = .bool x69_27 ∧ Aside0 (scholiastref02_Unquote.j5 kq a0 x5_3 x7_3 x69_27 = some (r1, r2, r3)) ∧ Aside0 (kq ≤ k3) ∧ Aside0 (Below w.heap.size w wc))
                  case first =>
                    have H := HC28.out
                    clear HC28
                    by_cases c29 : x7_3 < (a0.size : Int)
                    · rw [if_pos c29] at H
                      have c29b0 : decide (x7_3 < (a0.size : Int)) = true := decide_eq_true c29
                      clear c29
                      (first | rw [c29b0] | (simp only [i64_w, i32_w]; rw [c29b0]) | skip)
                      by_cases c30 : 0 ≤ x7_3
                      · rw [if_pos c30] at H
                        have c30b0 : decide (0 ≤ x7_3) = true := decide_eq_true c30
                        clear c30
                        have H' := Aside0.mk H
                        clear H
                        have p31 : 0 ≤ (x7_3 : Int) := of_decide_eq_true (by first | (with_reducible assumption) | assumption)
                        have q31 : x7_3 < (a0.size : Int) := of_decide_eq_true (by first | (with_reducible assumption) | assumption)
                        have hx31 := bt_at a0 x7_3
                        replace p31 := eq_true p31
                        replace q31 := eq_true q31
                        go_wp2
                        go_meet
                        case rel => exact ⟨_, (((bt a0 x7_3) != 10)), (by first | rfl | (simp; done) | (simp [*]; done) | (simp [wrap64]; done) | (simp [isEmpty_bne]; done)), H', ⟨by have := HJ1.out; have := HJ22.out; have := HK3.out; first | omega | exact Nat.le_refl _⟩, ⟨by repeat (first | (with_reducible first | exact HB.out | apply below_alloc | apply pw_below_drewN | apply below_drew1) | exact HB.out)⟩⟩
                      · rw [if_neg c30] at H
                        exact absurd H (by simp)
                    · rw [if_neg c29] at H
                      have c29b0 : decide (x7_3 < (a0.size : Int)) = false := decide_eq_false c29
                      clear c29
                      (first | rw [c29b0] | (simp only [i64_w, i32_w]; rw [c29b0]) | skip)
                      have H' := Aside0.mk H
                      clear H
                      go_wp2
                      go_meet
                      case rel => exact ⟨_, (false), (by first | rfl | (simp; done) | (simp [*]; done) | (simp [wrap64]; done) | (simp [isEmpty_bne]; done)), H', ⟨by have := HJ1.out; have := HJ22.out; have := HK3.out; first | omega | exact Nat.le_refl _⟩, ⟨by repeat (first | (with_reducible first | exact HB.out | apply below_alloc | apply pw_below_drewN | apply below_drew1) | exact HB.out)⟩⟩
                  case rest =>
                    clear HC28
                    try clear c1
                    try clear p1
                    try clear q1
                    try clear hx1
                    try clear c2
                    try clear p2
                    try clear q2
                    try clear hx2
                    try clear qi2
                    try clear c3
                    try clear c3b0
                    try clear c3b1
                    try clear p3
                    try clear q3
                    try clear hx3
                    try clear c4
                    try clear c4b0
                    try clear c4b1
                    try clear p5
                    try clear q5
                    try clear hx5
                    try clear qi5
                    try clear c6
                    try clear p6
                    try clear c7
                    try clear c7b0
                    try clear c9
                    try clear c9b0
                    try clear p10
                    try clear q10
                    try clear hx10
                    try clear c11
                    try clear c11b0
                    try clear c11b1
                    try clear c12
                    try clear c13
                    try clear c13b0
                    try clear c14
                    try clear c14b0
                    try clear p15
                    try clear q15
                    try clear hx15
                    try clear c16
                    try clear c16b0
                    try clear c16b1
                    try clear p17
                    try clear q17
                    try clear hx17
                    try clear c18
                    try clear c18b0
                    try clear c18b1
                    try clear c19
                    try clear c19b0
                    try clear c20
                    try clear c20b0
                    try clear c20b1
                    try clear c21
                    try clear c21b0
                    try clear c21b1
                    try clear c22
                    try clear c22b0
                    try clear c22b1
                    try clear c22b2
                    try clear c24
                    try clear c24b0
                    try clear c24b1
                    try clear c25
                    try clear c25b0
                    try clear c25b1
                    try clear p26
                    try clear q26
                    try clear hx26
                    try clear qi26
                    try clear c27
                    try clear c29
                    try clear c29b0
                    try clear c30
                    try clear c30b0
                    try clear p31
                    try clear q31
                    try clear hx31
                    try clear p1
                    try clear p10
                    try clear p15
                    try clear p17
                    try clear p2
                    try clear p26
                    try clear p31
                    try clear p5
                    try clear p6
                    try clear q1
                    try clear q10
                    try clear q15
                    try clear q17
                    try clear q2
                    try clear q26
                    try clear q31
                    try clear q5
                    obtain ⟨kq, x69_27, rfl, HA, HJ27, HB⟩ := hcut
                    cases kq with
                    | zero => exact absurd HA.out (by simp [scholiastref02_Unquote.j5])
                    | succ kj27 =>
                      have H := HA.out
                      clear HA
                      simp only [scholiastref02_Unquote.j5] at H
                      by_cases c32 : x69_27 = true
                      · subst c32
                        have H1 : (if 0 ≤ x7_3 then (if x7_3 < (a0.size : Int) then (if (bt a0 x7_3) = 34 then (if (wrap64 (x7_3 + 1)) = (a0.size : Int) then (some (x5_3, 0, 0)) else (some ((⟨#[]⟩ : ByteArray), 106, 0))) else (if (bt a0 x7_3) = 92 then ((scholiastref02_Escape.f kj27 a0 x7_3 34).bind fun bt219 => (if bt219.2.2 = 0 then (some ((⟨#[]⟩ : ByteArray), 108, x7_3)) else (if x5_3.size + bt219.2.1.size ≤ 9223372036854775807 then (scholiastref02_Unquote.l1 kj27 a0 (x5_3 ++ bt219.2.1) (wrap64 (x7_3 + bt219.2.2))) else (none)))) else (if x7_3 ≤ (wrap64 (x7_3 + 1)) then (if (wrap64 (x7_3 + 1)) ≤ (a0.size : Int) then (if x5_3.size + (a0.extract (x7_3 : Int).toNat ((wrap64 (x7_3 + 1)) : Int).toNat).size ≤ 9223372036854775807 then (scholiastref02_Unquote.l1 kj27 a0 (x5_3 ++ (a0.extract (x7_3 : Int).toNat ((wrap64 (x7_3 + 1)) : Int).toNat)) (wrap64 (x7_3 + 1))) else (none)) else (none)) else (none)))) else (none)) else (none)) = some (r1, r2, r3) := by rw [if_pos rfl] at H; exact H
                        clear H
                        have H := H1
                        clear H1
                        by_cases c33 : 0 ≤ x7_3
                        · rw [if_pos c33] at H
                          have c33b0 : decide (0 ≤ x7_3) = true := decide_eq_true c33
                          clear c33
                          by_cases c34 : x7_3 < (a0.size : Int)
                          · rw [if_pos c34] at H
                            have c34b0 : decide (x7_3 < (a0.size : Int)) = true := decide_eq_true c34
                            clear c34
                            by_cases c36 : (bt a0 x7_3) = 34
                            · rw [if_pos c36] at H
                              have c36b0 : ((bt a0 x7_3) == 34) = true := beq_iff_eq.mpr c36
                              have c36b1 : ((bt a0 x7_3) != 34) = false := bne_eq_false_iff_eq.mpr c36
                              clear c36
                              by_cases c37 : (wrap64 (x7_3 + 1)) = (a0.size : Int)
                              · rw [if_pos c37] at H
                                have c37b0 : ((wrap64 (x7_3 + 1)) == (a0.size : Int)) = true := beq_iff_eq.mpr c37
                                have c37b1 : ((wrap64 (x7_3 + 1)) != (a0.size : Int)) = false := bne_eq_false_iff_eq.mpr c37
                                clear c37
                                simp only [Option.some.injEq, Prod.mk.injEq] at H
                                obtain ⟨rfl, rfl, rfl⟩ := H
                                have p35 : 0 ≤ (x7_3 : Int) := of_decide_eq_true (by first | (with_reducible assumption) | assumption)
                                have q35 : x7_3 < (a0.size : Int) := of_decide_eq_true (by first | (with_reducible assumption) | assumption)
                                have hx35 := bt_at a0 x7_3
                                replace p35 := eq_true p35
                                replace q35 := eq_true q35
                                go_wp2
                                go_ret3
                                exact ⟨by first | rfl | (simp [errW_none, errW_some] <;> rfl) | (simp [*, errW_none, errW_some] <;> rfl), by repeat (first | (with_reducible first | exact HB.out | apply below_alloc | apply pw_below_drewN | apply below_drew1) | exact HB.out)⟩
                              · rw [if_neg c37] at H
                                have c37b0 : ((wrap64 (x7_3 + 1)) == (a0.size : Int)) = false := beq_eq_false_iff_ne.mpr c37
                                have c37b1 : ((wrap64 (x7_3 + 1)) != (a0.size : Int)) = true := bne_iff_ne.mpr c37
                                simp only [Option.some.injEq, Prod.mk.injEq] at H
                                obtain ⟨rfl, rfl, rfl⟩ := H
                                have p35 : 0 ≤ (x7_3 : Int) := of_decide_eq_true (by first | (with_reducible assumption) | assumption)
                                have q35 : x7_3 < (a0.size : Int) := of_decide_eq_true (by first | (with_reducible assumption) | assumption)
                                have hx35 := bt_at a0 x7_3
                                replace p35 := eq_true p35
                                replace q35 := eq_true q35
                                go_wp2
                                go_ret3
                                exact ⟨by first | rfl | (simp [errW_none, errW_some] <;> rfl) | (simp [*, errW_none, errW_some] <;> rfl), by repeat (first | (with_reducible first | exact HB.out | apply below_alloc | apply pw_below_drewN | apply below_drew1) | exact HB.out)⟩
                            · rw [if_neg c36] at H
                              have c36b0 : ((bt a0 x7_3) == 34) = false := beq_eq_false_iff_ne.mpr c36
                              have c36b1 : ((bt a0 x7_3) != 34) = true := bne_iff_ne.mpr c36
                              by_cases c38 : (bt a0 x7_3) = 92
                              · rw [if_pos c38] at H
                                have c38b0 : ((bt a0 x7_3) == 92) = true := beq_iff_eq.mpr c38
                                have c38b1 : ((bt a0 x7_3) != 92) = false := bne_eq_false_iff_eq.mpr c38
                                clear c38
                                replace H := Option.bind_eq_some_iff.mp H
                                obtain ⟨⟨t219, t220, t221⟩, A390, H⟩ := H
                                replace H : (if t221 = 0 then (some ((⟨#[]⟩ : ByteArray), 108, x7_3)) else (if x5_3.size + t220.size ≤ 9223372036854775807 then (scholiastref02_Unquote.l1 kj27 a0 (x5_3 ++ t220) (wrap64 (x7_3 + t221))) else (none))) = some (r1, r2, r3) := H
                                have A39 := Aside0.mk A390
                                clear A390
                                by_cases c40 : t221 = 0
                                · rw [if_pos c40] at H
                                  have c40b0 : (t221 == 0) = true := beq_iff_eq.mpr c40
                                  have c40b1 : (t221 != 0) = false := bne_eq_false_iff_eq.mpr c40
                                  clear c40
                                  simp only [Option.some.injEq, Prod.mk.injEq] at H
                                  obtain ⟨rfl, rfl, rfl⟩ := H
                                  have p35 : 0 ≤ (x7_3 : Int) := of_decide_eq_true (by first | (with_reducible assumption) | assumption)
                                  have q35 : x7_3 < (a0.size : Int) := of_decide_eq_true (by first | (with_reducible assumption) | assumption)
                                  have hx35 := bt_at a0 x7_3
                                  replace p35 := eq_true p35
                                  replace q35 := eq_true q35
                                  go_wp2_with (first | ((with_reducible refine gate_callee (f := 46) rfl ?_); refine goesL_ (some 95) rfl rfl Tryd.func46 (by kernel_rfl) rfl #[.string a0, .int .i64 x7_3, .int .u8 34] rfl (by (try simp only [List.map_toArray, List.map_cons, List.map_nil]); first | done | rfl | (simp only [List.length_drop, List.length_take]; rfl) | (rw [extract_all]; rfl)) ?_; (with_reducible refine (scholiastref02_Escape.calls kj27 a0 x7_3 34 t219 t220 t221 _ A39.out).mono ?_); rintro e w41 ⟨rfl, hb⟩; refine ⟨_, rfl, ?_⟩; have n0_ := Aside0.mk (below_step (by repeat (first | (with_reducible first | exact HB.out | apply below_alloc | apply pw_below_drewN | apply below_drew1) | exact HB.out)) hb); clear HB; have HB := n0_; clear n0_; (try clear hb); (try clear hb2); (try clear hk); (try clear hi)))
                                  go_ret3
                                  exact ⟨by first | rfl | (simp [errW_none, errW_some] <;> rfl) | (simp [*, errW_none, errW_some] <;> rfl), by repeat (first | (with_reducible first | exact HB.out | apply below_alloc | apply pw_below_drewN | apply below_drew1) | exact HB.out)⟩
                                · rw [if_neg c40] at H
                                  have c40b0 : (t221 == 0) = false := beq_eq_false_iff_ne.mpr c40
                                  have c40b1 : (t221 != 0) = true := bne_iff_ne.mpr c40
                                  by_cases c42 : x5_3.size + t220.size ≤ 9223372036854775807
                                  · rw [if_pos c42] at H
                                    have c42b0 := eq_true c42
                                    have c42b1 : decide (x5_3.size + t220.size ≤ 9223372036854775807) = true := decide_eq_true c42
                                    try have c42b2 : (9223372036854775807 < x5_3.size + t220.size) = False := eq_false (Nat.not_lt.2 c42)
                                    have H' := Aside0.mk H
                                    clear H
                                    have p35 : 0 ≤ (x7_3 : Int) := of_decide_eq_true (by first | (with_reducible assumption) | assumption)
                                    have q35 : x7_3 < (a0.size : Int) := of_decide_eq_true (by first | (with_reducible assumption) | assumption)
                                    have hx35 := bt_at a0 x7_3
                                    replace p35 := eq_true p35
                                    replace q35 := eq_true q35
                                    go_wp2_with (first | ((with_reducible refine gate_callee (f := 46) rfl ?_); refine goesL_ (some 95) rfl rfl Tryd.func46 (by kernel_rfl) rfl #[.string a0, .int .i64 x7_3, .int .u8 34] rfl (by (try simp only [List.map_toArray, List.map_cons, List.map_nil]); first | done | rfl | (simp only [List.length_drop, List.length_take]; rfl) | (rw [extract_all]; rfl)) ?_; (with_reducible refine (scholiastref02_Escape.calls kj27 a0 x7_3 34 t219 t220 t221 _ A39.out).mono ?_); rintro e w43 ⟨rfl, hb⟩; refine ⟨_, rfl, ?_⟩; have n0_ := Aside0.mk (below_step (by repeat (first | (with_reducible first | exact HB.out | apply below_alloc | apply pw_below_drewN | apply below_drew1) | exact HB.out)) hb); clear HB; have HB := n0_; clear n0_; (try clear hb); (try clear hb2); (try clear hk); (try clear hi)))
                                    go_roundg kj27
                                    case measure => have := HJ1.out; have := HJ22.out; have := HK3.out; have := HJ27.out; omega
                                    case rel => exact ⟨(x5_3 ++ t220), (wrap64 (x7_3 + t221)), (by first | rfl | (simp; done) | (simp [*]; done) | (simp [wrap64]; done) | (simp [isEmpty_bne]; done)), (by first | rfl | (simp; done) | (simp [*]; done) | (simp [wrap64]; done) | (simp [isEmpty_bne]; done)), H', ⟨by have := HJ1.out; have := HJ22.out; have := HK3.out; have := HJ27.out; omega⟩, ⟨by repeat (first | (with_reducible first | exact HB.out | apply below_alloc | apply pw_below_drewN | apply below_drew1) | exact HB.out)⟩⟩
                                  · rw [if_neg c42] at H
                                    exact absurd H (by simp)
                              · rw [if_neg c38] at H
                                have c38b0 : ((bt a0 x7_3) == 92) = false := beq_eq_false_iff_ne.mpr c38
                                have c38b1 : ((bt a0 x7_3) != 92) = true := bne_iff_ne.mpr c38
                                have c44b0 := eq_true (of_decide_eq_true (by first | (with_reducible assumption) | assumption) : 0 ≤ x7_3)
                                by_cases c45 : x7_3 ≤ (wrap64 (x7_3 + 1))
                                · rw [if_pos c45] at H
                                  have c45b0 := eq_true c45
                                  have c45b1 : decide (x7_3 ≤ (wrap64 (x7_3 + 1))) = true := decide_eq_true c45
                                  by_cases c46 : (wrap64 (x7_3 + 1)) ≤ (a0.size : Int)
                                  · rw [if_pos c46] at H
                                    have c46b0 := eq_true c46
                                    have c46b1 : decide ((wrap64 (x7_3 + 1)) ≤ (a0.size : Int)) = true := decide_eq_true c46
                                    by_cases c47 : x5_3.size + (a0.extract (x7_3 : Int).toNat ((wrap64 (x7_3 + 1)) : Int).toNat).size ≤ 9223372036854775807
                                    · rw [if_pos c47] at H
                                      have c47b0 := eq_true c47
                                      have c47b1 : decide (x5_3.size + (a0.extract (x7_3 : Int).toNat ((wrap64 (x7_3 + 1)) : Int).toNat).size ≤ 9223372036854775807) = true := decide_eq_true c47
                                      try have c47b2 : (9223372036854775807 < x5_3.size + (a0.extract (x7_3 : Int).toNat ((wrap64 (x7_3 + 1)) : Int).toNat).size) = False := eq_false (Nat.not_lt.2 c47)
                                      have H' := Aside0.mk H
                                      clear H
                                      have p35 : 0 ≤ (x7_3 : Int) := of_decide_eq_true (by first | (with_reducible assumption) | assumption)
                                      have q35 : x7_3 < (a0.size : Int) := of_decide_eq_true (by first | (with_reducible assumption) | assumption)
                                      have hx35 := bt_at a0 x7_3
                                      replace p35 := eq_true p35
                                      replace q35 := eq_true q35
                                      go_wp2
                                      go_roundg kj27
                                      case measure => have := HJ1.out; have := HJ22.out; have := HK3.out; have := HJ27.out; omega
                                      case rel => exact ⟨(x5_3 ++ (a0.extract (x7_3 : Int).toNat ((wrap64 (x7_3 + 1)) : Int).toNat)), (wrap64 (x7_3 + 1)), (by first | rfl | (simp; done) | (simp [*]; done) | (simp [wrap64]; done) | (simp [isEmpty_bne]; done)), (by first | rfl | (simp; done) | (simp [*]; done) | (simp [wrap64]; done) | (simp [isEmpty_bne]; done)), H', ⟨by have := HJ1.out; have := HJ22.out; have := HK3.out; have := HJ27.out; omega⟩, ⟨by repeat (first | (with_reducible first | exact HB.out | apply below_alloc | apply pw_below_drewN | apply below_drew1) | exact HB.out)⟩⟩
                                    · rw [if_neg c47] at H
                                      exact absurd H (by simp)
                                  · rw [if_neg c46] at H
                                    exact absurd H (by simp)
                                · rw [if_neg c45] at H
                                  exact absurd H (by simp)
                          · rw [if_neg c34] at H
                            exact absurd H (by simp)
                        · rw [if_neg c33] at H
                          exact absurd H (by simp)
                      · replace c32 := Bool.eq_false_iff.mpr c32
                        subst c32
                        have H1 : (some ((⟨#[]⟩ : ByteArray), 106, 0)) = some (r1, r2, r3) := by rw [if_neg (show ¬ (false = true) by decide)] at H; exact H
                        clear H
                        have H := H1
                        clear H1
                        simp only [Option.some.injEq, Prod.mk.injEq] at H
                        obtain ⟨rfl, rfl, rfl⟩ := H
                        go_wp2
                        go_ret3
                        exact ⟨by first | rfl | (simp [errW_none, errW_some] <;> rfl) | (simp [*, errW_none, errW_some] <;> rfl), by repeat (first | (with_reducible first | exact HB.out | apply below_alloc | apply pw_below_drewN | apply below_drew1) | exact HB.out)⟩

end Go.Proofs.YtkpceagbjodbbaaDoor.PA
