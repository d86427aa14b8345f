-- Printed by a program of this session (wip/xprint.py) for this claim: Lean checks it.
import Derived.Test.YtkpceagbjodbbaaDoorPA0
namespace Go.Proofs.YtkpceagbjodbbaaDoor.PA
open Go.RowKit Go.Proofs.YtkpceagbjodbbaaDoor.Ext Go.Proofs.YtkpceagbjodbbaaDoorW.PrintWords Go.Proofs.YtkpceagbjodbbaaDoorW.PrintLast Go.Proofs.YtkpceagbjodbbaaDoorW.PrintMore
attribute [local go_sem] max2_int min2_int max_two min_two max_three min_three max_four min_four   -- for this text's walks alone
set_option linter.unusedVariables false
set_option linter.unusedSimpArgs false

/-! ### scholiastref02_Char: function 48 -/
mutual
def scholiastref02_Char.l0 : Nat → ByteArray → Int → Int → Int → Option (Int × Int)
  | 0, _, _, _, _ => none
  | k + 1, x0, x1, x6, x7 => if x7 ≤ 4 then (scholiastref02_Char.j1 k x0 x1 x6 x7 (decide ((wrap64 (x1 + x7)) ≤ (x0.size : Int)))) else (scholiastref02_Char.j1 k x0 x1 x6 x7 false)
def scholiastref02_Char.j1 : Nat → ByteArray → Int → Int → Int → Bool → Option (Int × Int)
  | 0, _, _, _, _, _ => none
  | k + 1, x0, x1, x6, x7, x32 => if x32 = true then ((some (([192, 224, 240] : List Int) : List Int)).bind fun y222 => (if 0 ≤ (wrap64 (x7 - 2)) then (if (wrap64 (x7 - 2)) < (y222.length : Int) then (if (wrap64 (x6 - (rd y222 (wrap64 (x7 - 2))))) ≥ 0 then (if 0 ≤ (wrap64 (7 - x7)) then (scholiastref02_Char.j2 k x0 x1 x6 x7 (wrap64 (x6 - (rd y222 (wrap64 (x7 - 2))))) (decide ((wrap64 (x6 - (rd y222 (wrap64 (x7 - 2))))) < (shl .i64 1 (wrap64 (7 - x7)))))) else (none)) else (scholiastref02_Char.j2 k x0 x1 x6 x7 (wrap64 (x6 - (rd y222 (wrap64 (x7 - 2))))) false)) else (none)) else (none))) else (some (0, 0))
def scholiastref02_Char.j2 : Nat → ByteArray → Int → Int → Int → Int → Bool → Option (Int × Int)
  | 0, _, _, _, _, _, _ => none
  | k + 1, x0, x1, x6, x7, x9, x10 => scholiastref02_Char.l1 k x0 x1 x6 x7 x9 x10 (wrap64 (x1 + 1))
def scholiastref02_Char.l1 : Nat → ByteArray → Int → Int → Int → Int → Bool → Int → Option (Int × Int)
  | 0, _, _, _, _, _, _, _ => none
  | k + 1, x0, x1, x6, x7, x9, x10, x11 => if x11 < (wrap64 (x1 + x7)) then (if x10 = true then (if 0 ≤ x11 then (if x11 < (x0.size : Int) then (scholiastref02_Char.l1 k x0 x1 x6 x7 (wrap64 ((wrap64 (x9 * 64)) + (wrap64 (Go.bits .and .u8 (bt x0 x11) 63)))) ((Go.bits .and .u8 (bt x0 x11) 192) == 128) (wrap64 (x11 + 1))) else (none)) else (none)) else (if 0 ≤ x11 then (if x11 < (x0.size : Int) then (scholiastref02_Char.l1 k x0 x1 x6 x7 (wrap64 ((wrap64 (x9 * 64)) + (wrap64 (Go.bits .and .u8 (bt x0 x11) 63)))) false (wrap64 (x11 + 1))) else (none)) else (none))) else (if x10 = true then (if x9 ≤ 1114111 then (if x9 < 55296 then ((some (([128, 2048, 65536] : List Int) : List Int)).bind fun y226 => (if 0 ≤ (wrap64 (x7 - 2)) then (if (wrap64 (x7 - 2)) < (y226.length : Int) then (if x9 ≥ (rd y226 (wrap64 (x7 - 2))) then (some (x9, x7)) else (scholiastref02_Char.l0 k x0 x1 x6 (wrap64 (x7 + 1)))) else (none)) else (none))) else (if x9 > 57343 then ((some (([128, 2048, 65536] : List Int) : List Int)).bind fun y230 => (if 0 ≤ (wrap64 (x7 - 2)) then (if (wrap64 (x7 - 2)) < (y230.length : Int) then (if x9 ≥ (rd y230 (wrap64 (x7 - 2))) then (some (x9, x7)) else (scholiastref02_Char.l0 k x0 x1 x6 (wrap64 (x7 + 1)))) else (none)) else (none))) else (scholiastref02_Char.l0 k x0 x1 x6 (wrap64 (x7 + 1))))) else (scholiastref02_Char.l0 k x0 x1 x6 (wrap64 (x7 + 1)))) else (scholiastref02_Char.l0 k x0 x1 x6 (wrap64 (x7 + 1))))
end
def scholiastref02_Char.f (k : Nat) (a0 : ByteArray) (a1 : Int) : Option (Int × Int) := if a1 ≥ (a0.size : Int) then (some (0, 0)) else (if 0 ≤ a1 then (if a1 < (a0.size : Int) then (if (wrap64 (bt a0 a1)) < 128 then (some (wrap64 (bt a0 a1), 1)) else (scholiastref02_Char.l0 k a0 a1 (wrap64 (bt a0 a1)) 2)) else (none)) else (none))
theorem scholiastref02_Char.mono_l : ∀ k, (∀ y0 y1 y2 y3, LeO (scholiastref02_Char.l0 k y0 y1 y2 y3) (scholiastref02_Char.l0 (k + 1) y0 y1 y2 y3)) ∧ (∀ y0 y1 y2 y3 y4, LeO (scholiastref02_Char.j1 k y0 y1 y2 y3 y4) (scholiastref02_Char.j1 (k + 1) y0 y1 y2 y3 y4)) ∧ (∀ y0 y1 y2 y3 y4 y5, LeO (scholiastref02_Char.j2 k y0 y1 y2 y3 y4 y5) (scholiastref02_Char.j2 (k + 1) y0 y1 y2 y3 y4 y5)) ∧ (∀ y0 y1 y2 y3 y4 y5 y6, LeO (scholiastref02_Char.l1 k y0 y1 y2 y3 y4 y5 y6) (scholiastref02_Char.l1 (k + 1) y0 y1 y2 y3 y4 y5 y6))
  | 0 => ⟨fun _ _ _ _ r h => by simp [scholiastref02_Char.l0] at h, fun _ _ _ _ _ r h => by simp [scholiastref02_Char.j1] at h, fun _ _ _ _ _ _ r h => by simp [scholiastref02_Char.j2] at h, fun _ _ _ _ _ _ _ r h => by simp [scholiastref02_Char.l1] at h⟩
  | k + 1 => by
    obtain ⟨ih0, ih1, ih2, ih3⟩ := scholiastref02_Char.mono_l k
    refine ⟨?_, ?_, ?_, ?_⟩
    · intro y0 y1 y2 y3
      unfold scholiastref02_Char.l0
      repeat' first
      | (with_reducible exact ih0 _ _ _ _)
      | (with_reducible exact ih1 _ _ _ _ _)
      | (with_reducible exact ih2 _ _ _ _ _ _)
      | (with_reducible exact ih3 _ _ _ _ _ _ _)
      | (with_reducible exact LeO.refl _)
      | (with_reducible exact LeO.none _)
      | (with_reducible refine LeO.ite ?_ ?_)
      | (with_reducible refine LeO.bind ?_ (fun _ => ?_))
      | exact ih0 _ _ _ _
      | exact ih1 _ _ _ _ _
      | exact ih2 _ _ _ _ _ _
      | exact ih3 _ _ _ _ _ _ _
      | exact LeO.none _
      | refine LeO.ite ?_ ?_
      | refine LeO.bind ?_ (fun _ => ?_)
    · intro y0 y1 y2 y3 y4
      unfold scholiastref02_Char.j1
      repeat' first
      | (with_reducible exact ih0 _ _ _ _)
      | (with_reducible exact ih1 _ _ _ _ _)
      | (with_reducible exact ih2 _ _ _ _ _ _)
      | (with_reducible exact ih3 _ _ _ _ _ _ _)
      | (with_reducible exact LeO.refl _)
      | (with_reducible exact LeO.none _)
      | (with_reducible refine LeO.ite ?_ ?_)
      | (with_reducible refine LeO.bind ?_ (fun _ => ?_))
      | exact ih0 _ _ _ _
      | exact ih1 _ _ _ _ _
      | exact ih2 _ _ _ _ _ _
      | exact ih3 _ _ _ _ _ _ _
      | exact LeO.none _
      | refine LeO.ite ?_ ?_
      | refine LeO.bind ?_ (fun _ => ?_)
    · intro y0 y1 y2 y3 y4 y5
      unfold scholiastref02_Char.j2
      repeat' first
      | (with_reducible exact ih0 _ _ _ _)
      | (with_reducible exact ih1 _ _ _ _ _)
      | (with_reducible exact ih2 _ _ _ _ _ _)
      | (with_reducible exact ih3 _ _ _ _ _ _ _)
      | (with_reducible exact LeO.refl _)
      | (with_reducible exact LeO.none _)
      | (with_reducible refine LeO.ite ?_ ?_)
      | (with_reducible refine LeO.bind ?_ (fun _ => ?_))
      | exact ih0 _ _ _ _
      | exact ih1 _ _ _ _ _
      | exact ih2 _ _ _ _ _ _
      | exact ih3 _ _ _ _ _ _ _
      | exact LeO.none _
      | refine LeO.ite ?_ ?_
      | refine LeO.bind ?_ (fun _ => ?_)
    · intro y0 y1 y2 y3 y4 y5 y6
      unfold scholiastref02_Char.l1
      repeat' first
      | (with_reducible exact ih0 _ _ _ _)
      | (with_reducible exact ih1 _ _ _ _ _)
      | (with_reducible exact ih2 _ _ _ _ _ _)
      | (with_reducible exact ih3 _ _ _ _ _ _ _)
      | (with_reducible exact LeO.refl _)
      | (with_reducible exact LeO.none _)
      | (with_reducible refine LeO.ite ?_ ?_)
      | (with_reducible refine LeO.bind ?_ (fun _ => ?_))
      | exact ih0 _ _ _ _
      | exact ih1 _ _ _ _ _
      | exact ih2 _ _ _ _ _ _
      | exact ih3 _ _ _ _ _ _ _
      | exact LeO.none _
      | refine LeO.ite ?_ ?_
      | refine LeO.bind ?_ (fun _ => ?_)
theorem scholiastref02_Char.mono : ∀ a0 a1 k, LeO (scholiastref02_Char.f k a0 a1) (scholiastref02_Char.f (k + 1) a0 a1) := by
  intro a0 a1 k
  obtain ⟨ih0, ih1, ih2, ih3⟩ := scholiastref02_Char.mono_l k
  unfold scholiastref02_Char.f
  repeat' first
      | (with_reducible exact ih0 _ _ _ _)
      | (with_reducible exact ih1 _ _ _ _ _)
      | (with_reducible exact ih2 _ _ _ _ _ _)
      | (with_reducible exact ih3 _ _ _ _ _ _ _)
      | (with_reducible exact LeO.refl _)
      | (with_reducible exact LeO.none _)
      | (with_reducible refine LeO.ite ?_ ?_)
      | (with_reducible refine LeO.bind ?_ (fun _ => ?_))
      | exact ih0 _ _ _ _
      | exact ih1 _ _ _ _ _
      | exact ih2 _ _ _ _ _ _
      | exact ih3 _ _ _ _ _ _ _
      | exact LeO.none _
      | refine LeO.ite ?_ ?_
      | refine LeO.bind ?_ (fun _ => ?_)
set_option maxHeartbeats 8000000 in
set_option maxRecDepth 100000 in
theorem scholiastref02_Char.calls (k : Nat) (a0 : ByteArray) (a1 : Int) (r1 : Int) (r2 : Int) (w : World) (h : scholiastref02_Char.f k a0 a1 = some (r1, r2)) :
    Calls Tryd.prog 48 #[.string a0, .int .i64 a1] w fun e w' => e = .returned (.tuple #[.int .i64 r1, .int .i64 r2]) ∧ Below w.heap.size w w' := by
  have HB := Aside0.mk (Below.refl w.heap.size w)
  have H : (if a1 ≥ (a0.size : Int) then (some (0, 0)) else (if 0 ≤ a1 then (if a1 < (a0.size : Int) then (if (wrap64 (bt a0 a1)) < 128 then (some (wrap64 (bt a0 a1), 1)) else (scholiastref02_Char.l0 k a0 a1 (wrap64 (bt a0 a1)) 2)) else (none)) else (none))) = some (r1, r2) := h
  clear h
  by_cases c3 : a1 ≥ (a0.size : Int)
  · rw [if_pos c3] at H
    have c3b0 : decide ((a0.size : Int) ≤ a1) = true := decide_eq_true c3
    clear c3
    simp only [Option.some.injEq, Prod.mk.injEq] at H
    obtain ⟨rfl, rfl⟩ := H
    go_enter Tryd.func48, Tryd.ntmps48
    go_wp2
    go_ret2
    exact ⟨by first | rfl | (simp [errW_none, errW_some] <;> rfl) | (simp [*, errW_none, errW_some] <;> rfl), by repeat (first | (with_reducible first | exact HB.out | apply below_alloc | apply pw_below_drewN | apply below_drew1) | exact HB.out)⟩
  · rw [if_neg c3] at H
    have c3b0 : decide ((a0.size : Int) ≤ a1) = false := decide_eq_false c3
    clear c3
    by_cases c4 : 0 ≤ a1
    · rw [if_pos c4] at H
      have c4b0 : decide (0 ≤ a1) = true := decide_eq_true c4
      clear c4
      by_cases c5 : a1 < (a0.size : Int)
      · rw [if_pos c5] at H
        have c5b0 : decide (a1 < (a0.size : Int)) = true := decide_eq_true c5
        clear c5
        by_cases c7 : (wrap64 (bt a0 a1)) < 128
        · rw [if_pos c7] at H
          have c7b0 : decide ((wrap64 (bt a0 a1)) < 128) = true := decide_eq_true c7
          clear c7
          simp only [Option.some.injEq, Prod.mk.injEq] at H
          obtain ⟨rfl, rfl⟩ := H
          have p6 : 0 ≤ (a1 : Int) := of_decide_eq_true (by first | (with_reducible assumption) | assumption)
          have q6 : a1 < (a0.size : Int) := of_decide_eq_true (by first | (with_reducible assumption) | assumption)
          have hx6 := bt_at a0 a1
          replace p6 := eq_true p6
          replace q6 := eq_true q6
          go_enter Tryd.func48, Tryd.ntmps48
          go_wp2
          go_ret2
          exact ⟨by first | rfl | (simp [errW_none, errW_some] <;> rfl) | (simp [*, errW_none, errW_some] <;> rfl), by repeat (first | (with_reducible first | exact HB.out | apply below_alloc | apply pw_below_drewN | apply below_drew1) | exact HB.out)⟩
        · rw [if_neg c7] at H
          have c7b0 : decide ((wrap64 (bt a0 a1)) < 128) = false := decide_eq_false c7
          clear c7
          have H' := Aside0.mk H
          clear H
          have p6 : 0 ≤ (a1 : Int) := of_decide_eq_true (by first | (with_reducible assumption) | assumption)
          have q6 : a1 < (a0.size : Int) := of_decide_eq_true (by first | (with_reducible assumption) | assumption)
          have hx6 := bt_at a0 a1
          replace p6 := eq_true p6
          replace q6 := eq_true q6
          go_enter Tryd.func48, Tryd.ntmps48
          go_wp2
          go_loopg [7] k (fun kq v7 w' => ∃ (x7_1 : Int), v7 = .int .i64 x7_1 ∧ Aside0 (scholiastref02_Char.l0 kq a0 a1 (wrap64 (bt a0 a1)) x7_1 = some (r1, r2)) ∧ Aside0 (kq ≤ k) ∧ Aside0 (Below w.heap.size w w'))
          case atStart => exact ⟨(2), (by first | rfl | (simp; done) | (simp [*]; done) | (simp [wrap64]; done) | (simp [isEmpty_bne]; done)), H', ⟨Nat.le_refl _⟩, ⟨by repeat (first | (with_reducible first | exact HB.out | apply below_alloc | apply pw_below_drewN | apply below_drew1) | exact HB.out)⟩⟩
          case round =>
            clear H'
            try clear p2
            try clear c3
            try clear c3b0
            try clear c4
            try clear c4b0
            try clear c5
            try clear c5b0
            try clear p6
            try clear q6
            try clear hx6
            try clear c7
            try clear c7b0
            try clear p6
            try clear q6
            obtain ⟨x7_1, rfl, HA, HK1, HB⟩ := hrel
            cases gk with
            | zero => exact absurd HA.out (by simp [scholiastref02_Char.l0])
            | succ k1 =>
              have H := HA.out
              clear HA
              simp only [scholiastref02_Char.l0] at H
              have HC8 := Aside0.mk H
              clear H
              go_upto_region 7 with (fail)
              go_cut [32] (fun v32 wc => ∃ (kq : Nat) (x32_7 : Bool), v32 = .bool x32_7 ∧ Aside0 (scholiastref02_Char.j1 kq a0 a1 (wrap64 (bt a0 a1)) x7_1 x32_7 = some (r1, r2)) ∧ Aside0 (kq ≤ k1) ∧ Aside0 (Below w.heap.size w wc))
              case first =>
                have H := HC8.out
                clear HC8
                by_cases c9 : x7_1 ≤ 4
                · rw [if_pos c9] at H
                  have c9b0 : decide (x7_1 ≤ 4) = true := decide_eq_true c9
                  clear c9
                  (first | rw [c9b0] | (simp only [i64_w, i32_w]; rw [c9b0]) | skip)
                  have H' := Aside0.mk H
                  clear H
                  go_wp2
                  go_meet
                  case rel => exact ⟨_, (decide ((wrap64 (a1 + x7_1)) ≤ (a0.size : Int))), (by first | rfl | (simp; done) | (simp [*]; done) | (simp [wrap64]; done) | (simp [isEmpty_bne]; done)), H', ⟨by have := HK1.out; first | omega | exact Nat.le_refl _⟩, ⟨by repeat (first | (with_reducible first | exact HB.out | apply below_alloc | apply pw_below_drewN | apply below_drew1) | exact HB.out)⟩⟩
                · rw [if_neg c9] at H
                  have c9b0 : decide (x7_1 ≤ 4) = false := decide_eq_false c9
                  clear c9
                  (first | rw [c9b0] | (simp only [i64_w, i32_w]; rw [c9b0]) | skip)
                  have H' := Aside0.mk H
                  clear H
                  go_wp2
                  go_meet
                  case rel => exact ⟨_, (false), (by first | rfl | (simp; done) | (simp [*]; done) | (simp [wrap64]; done) | (simp [isEmpty_bne]; done)), H', ⟨by have := HK1.out; first | omega | exact Nat.le_refl _⟩, ⟨by repeat (first | (with_reducible first | exact HB.out | apply below_alloc | apply pw_below_drewN | apply below_drew1) | exact HB.out)⟩⟩
              case rest =>
                clear HC8
                try clear p2
                try clear c3
                try clear c3b0
                try clear c4
                try clear c4b0
                try clear c5
                try clear c5b0
                try clear p6
                try clear q6
                try clear hx6
                try clear c7
                try clear c7b0
                try clear c9
                try clear c9b0
                try clear p2
                try clear p6
                try clear q6
                obtain ⟨kq, x32_7, rfl, HA, HJ7, HB⟩ := hcut
                cases kq with
                | zero => exact absurd HA.out (by simp [scholiastref02_Char.j1])
                | succ kj7 =>
                  have H := HA.out
                  clear HA
                  simp only [scholiastref02_Char.j1] at H
                  by_cases c10 : x32_7 = true
                  · subst c10
                    have H1 : ((some (([192, 224, 240] : List Int) : List Int)).bind fun y222 => (if 0 ≤ (wrap64 (x7_1 - 2)) then (if (wrap64 (x7_1 - 2)) < (y222.length : Int) then (if (wrap64 ((wrap64 (bt a0 a1)) - (rd y222 (wrap64 (x7_1 - 2))))) ≥ 0 then (if 0 ≤ (wrap64 (7 - x7_1)) then (scholiastref02_Char.j2 kj7 a0 a1 (wrap64 (bt a0 a1)) x7_1 (wrap64 ((wrap64 (bt a0 a1)) - (rd y222 (wrap64 (x7_1 - 2))))) (decide ((wrap64 ((wrap64 (bt a0 a1)) - (rd y222 (wrap64 (x7_1 - 2))))) < (shl .i64 1 (wrap64 (7 - x7_1)))))) else (none)) else (scholiastref02_Char.j2 kj7 a0 a1 (wrap64 (bt a0 a1)) x7_1 (wrap64 ((wrap64 (bt a0 a1)) - (rd y222 (wrap64 (x7_1 - 2))))) false)) else (none)) else (none))) = some (r1, r2) := by rw [if_pos rfl] at H; exact H
                    clear H
                    have H := H1
                    clear H1
                    obtain ⟨y222, hy222⟩ : ∃ y_ : List Int, y_ = (([192, 224, 240] : List Int)) := ⟨_, rfl⟩
                    replace H : (if 0 ≤ (wrap64 (x7_1 - 2)) then (if (wrap64 (x7_1 - 2)) < (y222.length : Int) then (if (wrap64 ((wrap64 (bt a0 a1)) - (rd y222 (wrap64 (x7_1 - 2))))) ≥ 0 then (if 0 ≤ (wrap64 (7 - x7_1)) then (scholiastref02_Char.j2 kj7 a0 a1 (wrap64 (bt a0 a1)) x7_1 (wrap64 ((wrap64 (bt a0 a1)) - (rd y222 (wrap64 (x7_1 - 2))))) (decide ((wrap64 ((wrap64 (bt a0 a1)) - (rd y222 (wrap64 (x7_1 - 2))))) < (shl .i64 1 (wrap64 (7 - x7_1)))))) else (none)) else (scholiastref02_Char.j2 kj7 a0 a1 (wrap64 (bt a0 a1)) x7_1 (wrap64 ((wrap64 (bt a0 a1)) - (rd y222 (wrap64 (x7_1 - 2))))) false)) else (none)) else (none)) = some (r1, r2) := by first | (rw [hy222]; with_reducible exact H) | (have H2_ := (Option.bind_some _ _).symm.trans H; rw [hy222]; with_reducible exact H2_) | (have H2_ := (Option.bind_some _ _).symm.trans H; with_reducible exact H2_) | with_reducible exact H | (rw [hy222]; exact H) | exact H
                    have Ny222 := Aside0.mk hy222
                    clear hy222
                    obtain ⟨ji11, hji11⟩ : ∃ j_ : Int, (wrap64 (x7_1 - 2)) = j_ := ⟨_, rfl⟩
                    replace H : (if 0 ≤ (ji11) then (if (ji11) < (y222.length : Int) then (if (wrap64 ((wrap64 (bt a0 a1)) - (rd y222 (ji11)))) ≥ 0 then (if 0 ≤ (wrap64 (7 - x7_1)) then (scholiastref02_Char.j2 kj7 a0 a1 (wrap64 (bt a0 a1)) x7_1 (wrap64 ((wrap64 (bt a0 a1)) - (rd y222 (ji11)))) (decide ((wrap64 ((wrap64 (bt a0 a1)) - (rd y222 (ji11)))) < (shl .i64 1 (wrap64 (7 - x7_1)))))) else (none)) else (scholiastref02_Char.j2 kj7 a0 a1 (wrap64 (bt a0 a1)) x7_1 (wrap64 ((wrap64 (bt a0 a1)) - (rd y222 (ji11)))) false)) else (none)) else (none)) = some (r1, r2) := by first | (rw [hji11] at H; exact H) | (simp only [hji11] at H ⊢; exact H)
                    have hji11w : (IntKind.i64.wrap (x7_1 - 2)) = ji11 := (i64_w _).trans hji11
                    by_cases c12 : 0 ≤ (ji11)
                    · rw [if_pos c12] at H
                      have c12b0 : decide (0 ≤ (ji11)) = true := decide_eq_true c12
                      clear c12
                      by_cases c13 : (ji11) < (y222.length : Int)
                      · rw [if_pos c13] at H
                        have c13b0 : decide ((ji11) < (y222.length : Int)) = true := decide_eq_true c13
                        clear c13
                        have HC14 := Aside0.mk H
                        clear H
                        go_upto_region 11 with (first | ((with_reducible refine gate_dst (N := 35) rfl ?_); (try (refine gate_guard (by rfl) ?_; dsimp only)); refine Kd.R_lit (Kd.int .i64) _ 3 ?hg (N := 35) ?hd (xs := ([192, 224, 240] : List Int)) (inner := [.int .i64 192, .int .i64 224, .int .i64 240]) (ok := fun _ => True) (okp := fun _ => True) ?hr ?hp (fun _ hk => hk) trivial (Below.refl _ _) (Nat.le_refl _) (by simp) ?_; (case hd => rfl); (case hg => rfl); (case hr => first | (go_simp; done) | (go_simp; rfl)); (case hp => exact (Reps.one (show Kd.M (Kd.int .i64) _ _ _ 192 [.int .i64 192] from rfl) (Reps.one (show Kd.M (Kd.int .i64) _ _ _ 224 [.int .i64 224] from rfl) (Reps.one (show Kd.M (Kd.int .i64) _ _ _ 240 [.int .i64 240] from rfl) (Reps.none _ _))))); intro v223 w15 ho16 hb hg_ hnew_; clear hg_ hnew_; (first | rw [← Ny222.out] at ho16 | (simp only [Int.reduceToNat] at ho16; rw [← Ny222.out] at ho16)); have n0_ := Aside0.mk (Kd.R_lower ho16 (below_size (by repeat (first | (with_reducible first | exact HB.out | apply below_alloc | apply pw_below_drewN | apply below_drew1) | exact HB.out)))); have n1_ := Aside0.mk (below_step (by repeat (first | (with_reducible first | exact HB.out | apply below_alloc | apply pw_below_drewN | apply below_drew1) | exact HB.out)) hb); clear HB; have HO224 := n0_; have HB := n1_; clear n0_ n1_; clear hb ho16; obtain ⟨Ao17, co17, eo17⟩ := Kd.R_slice HO224.out; subst eo17; have p225 : 0 ≤ ((ji11) : Int) := of_decide_eq_true (by first | (with_reducible assumption) | assumption); have q225 : (ji11) < (y222.length : Int) := of_decide_eq_true (by first | (with_reducible assumption) | assumption); obtain ⟨ad225, e225, hx225_0⟩ := Kd.at_int (Kd.R_reads' HO224.out).2.2 (ji11) p225 q225; cases e225; replace p225 := eq_true p225; replace q225 := eq_true q225))
                        (try simp only [Act.put, List.setIfInBounds_toArray, List.set_cons_zero, List.set_cons_succ])
                        go_cut [10] (fun v10 wc => ∃ (kq : Nat) (x10_13 : Bool), v10 = .bool x10_13 ∧ Aside0 (scholiastref02_Char.j2 kq a0 a1 (wrap64 (bt a0 a1)) x7_1 (wrap64 ((wrap64 (bt a0 a1)) - (rd y222 (ji11)))) x10_13 = some (r1, r2)) ∧ Aside0 (kq ≤ kj7) ∧ Aside0 (Below w.heap.size w wc))
                        case first =>
                          have H := HC14.out
                          clear HC14
                          by_cases c18 : (wrap64 ((wrap64 (bt a0 a1)) - (rd y222 (ji11)))) ≥ 0
                          · rw [if_pos c18] at H
                            have c18b0 : decide (0 ≤ (wrap64 ((wrap64 (bt a0 a1)) - (rd y222 (ji11))))) = true := decide_eq_true c18
                            clear c18
                            (first | rw [c18b0] | (simp only [i64_w, i32_w]; rw [c18b0]) | skip)
                            obtain ⟨ji19, hji19⟩ : ∃ j_ : Int, (wrap64 (7 - x7_1)) = j_ := ⟨_, rfl⟩
                            replace H : (if 0 ≤ (ji19) then (scholiastref02_Char.j2 kj7 a0 a1 (wrap64 (bt a0 a1)) x7_1 (wrap64 ((wrap64 (bt a0 a1)) - (rd y222 (ji11)))) (decide ((wrap64 ((wrap64 (bt a0 a1)) - (rd y222 (ji11)))) < (shl .i64 1 (ji19))))) else (none)) = some (r1, r2) := by first | (rw [hji19] at H; exact H) | (simp only [hji19] at H ⊢; exact H)
                            have hji19w : (IntKind.i64.wrap (7 - x7_1)) = ji19 := (i64_w _).trans hji19
                            by_cases c20 : 0 ≤ (ji19)
                            · rw [if_pos c20] at H
                              have c20b0 := eq_true c20
                              have c20b1 : decide (0 ≤ (ji19)) = true := decide_eq_true c20
                              clear c20
                              obtain ⟨ji21, hji21⟩ : ∃ j_ : Int, (shl .i64 1 (ji19)) = j_ := ⟨_, rfl⟩
                              replace H : (scholiastref02_Char.j2 kj7 a0 a1 (wrap64 (bt a0 a1)) x7_1 (wrap64 ((wrap64 (bt a0 a1)) - (rd y222 (ji11)))) (decide ((wrap64 ((wrap64 (bt a0 a1)) - (rd y222 (ji11)))) < (ji21)))) = some (r1, r2) := by first | (rw [hji21] at H; exact H) | (simp only [hji21] at H ⊢; exact H)
                              have hji21_ : (IntKind.i64.wrap (1 * 2 ^ min (ji19).toNat 64)) = ji21 := hji21
                              have hji21z : (ji19) ≤ 64 → (IntKind.i64.wrap (1 * 2 ^ (ji19).toNat)) = ji21 := shl_small hji21
                              have hji21u : (IntKind.i64.wrap (2 ^ min (ji19).toNat 64)) = ji21 := by have h_ := hji21_; rw [Int.one_mul] at h_; exact h_
                              have hji21v : (ji19) ≤ 64 → (IntKind.i64.wrap (2 ^ (ji19).toNat)) = ji21 := fun hle_ => by have h_ := hji21z hle_; rw [Int.one_mul] at h_; exact h_
                              have hji21y : (wrap64 (1 * 2 ^ min (ji19).toNat 64)) = ji21 := (i64_w _).symm.trans hji21_
                              have hji21x : (ji19) ≤ 64 → (wrap64 (1 * 2 ^ (ji19).toNat)) = ji21 := fun h_ => (i64_w _).symm.trans (hji21z h_)
                              have H' := Aside0.mk H
                              clear H
                              go_wp2
                              go_meet
                              case rel => exact ⟨_, (decide ((wrap64 ((wrap64 (bt a0 a1)) - (rd y222 (ji11)))) < (ji21))), (by first | rfl | (simp; done) | (simp only [← hji11, ← hji21] <;> (first | rfl | simp)) | (simp [*]; done)), H', ⟨by have := HK1.out; have := HJ7.out; first | omega | exact Nat.le_refl _⟩, ⟨by repeat (first | (with_reducible first | exact HB.out | apply below_alloc | apply pw_below_drewN | apply below_drew1) | exact HB.out)⟩⟩
                            · rw [if_neg c20] at H
                              exact absurd H (by simp)
                          · rw [if_neg c18] at H
                            have c18b0 : decide (0 ≤ (wrap64 ((wrap64 (bt a0 a1)) - (rd y222 (ji11))))) = false := decide_eq_false c18
                            clear c18
                            (first | rw [c18b0] | (simp only [i64_w, i32_w]; rw [c18b0]) | skip)
                            have H' := Aside0.mk H
                            clear H
                            go_wp2
                            go_meet
                            case rel => exact ⟨_, (false), (by first | rfl | (simp; done) | (simp [*]; done) | (simp [wrap64]; done) | (simp [isEmpty_bne]; done)), H', ⟨by have := HK1.out; have := HJ7.out; first | omega | exact Nat.le_refl _⟩, ⟨by repeat (first | (with_reducible first | exact HB.out | apply below_alloc | apply pw_below_drewN | apply below_drew1) | exact HB.out)⟩⟩
                        case rest =>
                          clear HC14
                          try clear c1
                          try clear c2
                          try clear p2
                          try clear q2
                          try clear hx2
                          try clear c3
                          try clear c3b0
                          try clear c4
                          try clear c4b0
                          try clear c5
                          try clear c5b0
                          try clear p6
                          try clear q6
                          try clear hx6
                          try clear c7
                          try clear c7b0
                          try clear c9
                          try clear c9b0
                          try clear c10
                          try clear c12
                          try clear c12b0
                          try clear c13
                          try clear c13b0
                          try clear c18
                          try clear c18b0
                          try clear c20
                          try clear c20b0
                          try clear c20b1
                          try clear hx225_0
                          try clear p2
                          try clear p225
                          try clear p6
                          try clear q225
                          try clear q6
                          obtain ⟨kq, x10_13, rfl, HA, HJ13, HB⟩ := hcut
                          cases kq with
                          | zero => exact absurd HA.out (by simp [scholiastref02_Char.j2])
                          | succ kj13 =>
                            have H := HA.out
                            clear HA
                            simp only [scholiastref02_Char.j2] at H
                            have H' := Aside0.mk H
                            clear H
                            go_wp2
                            go_loopg [9, 10, 11] kj13 (fun kq v9 v10 v11 w' => ∃ (x9_4 : Int) (x10_4 : Bool) (x11_4 : Int), v9 = .int .i64 x9_4 ∧ v10 = .bool x10_4 ∧ v11 = .int .i64 x11_4 ∧ Aside0 (scholiastref02_Char.l1 kq a0 a1 (wrap64 (bt a0 a1)) x7_1 x9_4 x10_4 x11_4 = some (r1, r2)) ∧ Aside0 (kq ≤ kj13) ∧ Aside0 (Below w.heap.size w w'))
                            case atStart => exact ⟨((wrap64 ((wrap64 (bt a0 a1)) - (rd y222 (ji11))))), (x10_13), (wrap64 (a1 + 1)), (by first | rfl | (simp; done) | (simp only [← hji11] <;> (first | rfl | simp)) | (simp [*]; done)), (by first | rfl | (simp; done) | (simp [*]; done) | (simp [wrap64]; done) | (simp [isEmpty_bne]; done)), (by first | rfl | (simp; done) | (simp [*]; done) | (simp [wrap64]; done) | (simp [isEmpty_bne]; done)), H', ⟨Nat.le_refl _⟩, ⟨by repeat (first | (with_reducible first | exact HB.out | apply below_alloc | apply pw_below_drewN | apply below_drew1) | exact HB.out)⟩⟩
                            case round =>
                              clear H'
                              try clear c1
                              try clear c2
                              try clear p2
                              try clear q2
                              try clear hx2
                              try clear c3
                              try clear c3b0
                              try clear c4
                              try clear c4b0
                              try clear c5
                              try clear c5b0
                              try clear p6
                              try clear q6
                              try clear hx6
                              try clear c7
                              try clear c7b0
                              try clear c9
                              try clear c9b0
                              try clear c10
                              try clear c12
                              try clear c12b0
                              try clear c13
                              try clear c13b0
                              try clear c18
                              try clear c18b0
                              try clear c20
                              try clear c20b0
                              try clear c20b1
                              try clear hx225_0
                              try clear p2
                              try clear p225
                              try clear p6
                              try clear q2
                              try clear q225
                              try clear q6
                              obtain ⟨x9_4, x10_4, x11_4, rfl, rfl, rfl, HA, HK4, HB⟩ := hrel
                              cases gk with
                              | zero => exact absurd HA.out (by simp [scholiastref02_Char.l1])
                              | succ k4 =>
                                have H := HA.out
                                clear HA
                                simp only [scholiastref02_Char.l1] at H
                                by_cases c22 : x11_4 < (wrap64 (a1 + x7_1))
                                · rw [if_pos c22] at H
                                  have c22b0 : decide (x11_4 < (wrap64 (a1 + x7_1))) = true := decide_eq_true c22
                                  clear c22
                                  by_cases c23 : x10_4 = true
                                  · subst c23
                                    have H1 : (if 0 ≤ x11_4 then (if x11_4 < (a0.size : Int) then (scholiastref02_Char.l1 k4 a0 a1 (wrap64 (bt a0 a1)) x7_1 (wrap64 ((wrap64 (x9_4 * 64)) + (wrap64 (Go.bits .and .u8 (bt a0 x11_4) 63)))) ((Go.bits .and .u8 (bt a0 x11_4) 192) == 128) (wrap64 (x11_4 + 1))) else (none)) else (none)) = some (r1, r2) := by rw [if_pos rfl] at H; exact H
                                    clear H
                                    have H := H1
                                    clear H1
                                    by_cases c24 : 0 ≤ x11_4
                                    · rw [if_pos c24] at H
                                      have c24b0 : decide (0 ≤ x11_4) = true := decide_eq_true c24
                                      clear c24
                                      by_cases c25 : x11_4 < (a0.size : Int)
                                      · rw [if_pos c25] at H
                                        have c25b0 : decide (x11_4 < (a0.size : Int)) = true := decide_eq_true c25
                                        clear c25
                                        have H' := Aside0.mk H
                                        clear H
                                        have p26 : 0 ≤ (x11_4 : Int) := of_decide_eq_true (by first | (with_reducible assumption) | assumption)
                                        have q26 : x11_4 < (a0.size : Int) := of_decide_eq_true (by first | (with_reducible assumption) | assumption)
                                        have hx26 := bt_at a0 x11_4
                                        replace p26 := eq_true p26
                                        replace q26 := eq_true q26
                                        have p27 : 0 ≤ (x11_4 : Int) := of_decide_eq_true (by first | (with_reducible assumption) | assumption)
                                        have q27 : x11_4 < (a0.size : Int) := of_decide_eq_true (by first | (with_reducible assumption) | assumption)
                                        have hx27 := bt_at a0 x11_4
                                        replace p27 := eq_true p27
                                        replace q27 := eq_true q27
                                        go_wp2
                                        go_roundg k4
                                        case measure => have := HK1.out; have := HJ7.out; have := HJ13.out; have := HK4.out; omega
                                        case rel => exact ⟨(wrap64 ((wrap64 (x9_4 * 64)) + (wrap64 (Go.bits .and .u8 (bt a0 x11_4) 63)))), (((Go.bits .and .u8 (bt a0 x11_4) 192) == 128)), (wrap64 (x11_4 + 1)), (by first | rfl | (simp; done) | (simp [*]; done) | (simp [wrap64]; done) | (simp [isEmpty_bne]; done)), (by first | rfl | (simp; done) | (simp [*]; done) | (simp [wrap64]; done) | (simp [isEmpty_bne]; done)), (by first | rfl | (simp; done) | (simp [*]; done) | (simp [wrap64]; done) | (simp [isEmpty_bne]; done)), H', ⟨by have := HK1.out; have := HJ7.out; have := HJ13.out; have := HK4.out; omega⟩, ⟨by repeat (first | (with_reducible first | exact HB.out | apply below_alloc | apply pw_below_drewN | apply below_drew1) | exact HB.out)⟩⟩
                                      · rw [if_neg c25] at H
                                        exact absurd H (by simp)
                                    · rw [if_neg c24] at H
                                      exact absurd H (by simp)
                                  · replace c23 := Bool.eq_false_iff.mpr c23
                                    subst c23
                                    have H1 : (if 0 ≤ x11_4 then (if x11_4 < (a0.size : Int) then (scholiastref02_Char.l1 k4 a0 a1 (wrap64 (bt a0 a1)) x7_1 (wrap64 ((wrap64 (x9_4 * 64)) + (wrap64 (Go.bits .and .u8 (bt a0 x11_4) 63)))) false (wrap64 (x11_4 + 1))) else (none)) else (none)) = some (r1, r2) := by rw [if_neg (show ¬ (false = true) by decide)] at H; exact H
                                    clear H
                                    have H := H1
                                    clear H1
                                    by_cases c28 : 0 ≤ x11_4
                                    · rw [if_pos c28] at H
                                      have c28b0 : decide (0 ≤ x11_4) = true := decide_eq_true c28
                                      clear c28
                                      by_cases c29 : x11_4 < (a0.size : Int)
                                      · rw [if_pos c29] at H
                                        have c29b0 : decide (x11_4 < (a0.size : Int)) = true := decide_eq_true c29
                                        clear c29
                                        have H' := Aside0.mk H
                                        clear H
                                        have p30 : 0 ≤ (x11_4 : Int) := of_decide_eq_true (by first | (with_reducible assumption) | assumption)
                                        have q30 : x11_4 < (a0.size : Int) := of_decide_eq_true (by first | (with_reducible assumption) | assumption)
                                        have hx30 := bt_at a0 x11_4
                                        replace p30 := eq_true p30
                                        replace q30 := eq_true q30
                                        go_wp2
                                        go_roundg k4
                                        case measure => have := HK1.out; have := HJ7.out; have := HJ13.out; have := HK4.out; omega
                                        case rel => exact ⟨(wrap64 ((wrap64 (x9_4 * 64)) + (wrap64 (Go.bits .and .u8 (bt a0 x11_4) 63)))), (false), (wrap64 (x11_4 + 1)), (by first | rfl | (simp; done) | (simp [*]; done) | (simp [wrap64]; done) | (simp [isEmpty_bne]; done)), (by first | rfl | (simp; done) | (simp [*]; done) | (simp [wrap64]; done) | (simp [isEmpty_bne]; done)), (by first | rfl | (simp; done) | (simp [*]; done) | (simp [wrap64]; done) | (simp [isEmpty_bne]; done)), H', ⟨by have := HK1.out; have := HJ7.out; have := HJ13.out; have := HK4.out; omega⟩, ⟨by repeat (first | (with_reducible first | exact HB.out | apply below_alloc | apply pw_below_drewN | apply below_drew1) | exact HB.out)⟩⟩
                                      · rw [if_neg c29] at H
                                        exact absurd H (by simp)
                                    · rw [if_neg c28] at H
                                      exact absurd H (by simp)
                                · rw [if_neg c22] at H
                                  have c22b0 : decide (x11_4 < (wrap64 (a1 + x7_1))) = false := decide_eq_false c22
                                  clear c22
                                  by_cases c31 : x10_4 = true
                                  · subst c31
                                    have H1 : (if x9_4 ≤ 1114111 then (if x9_4 < 55296 then ((some (([128, 2048, 65536] : List Int) : List Int)).bind fun y226 => (if 0 ≤ (wrap64 (x7_1 - 2)) then (if (wrap64 (x7_1 - 2)) < (y226.length : Int) then (if x9_4 ≥ (rd y226 (wrap64 (x7_1 - 2))) then (some (x9_4, x7_1)) else (scholiastref02_Char.l0 k4 a0 a1 (wrap64 (bt a0 a1)) (wrap64 (x7_1 + 1)))) else (none)) else (none))) else (if x9_4 > 57343 then ((some (([128, 2048, 65536] : List Int) : List Int)).bind fun y230 => (if 0 ≤ (wrap64 (x7_1 - 2)) then (if (wrap64 (x7_1 - 2)) < (y230.length : Int) then (if x9_4 ≥ (rd y230 (wrap64 (x7_1 - 2))) then (some (x9_4, x7_1)) else (scholiastref02_Char.l0 k4 a0 a1 (wrap64 (bt a0 a1)) (wrap64 (x7_1 + 1)))) else (none)) else (none))) else (scholiastref02_Char.l0 k4 a0 a1 (wrap64 (bt a0 a1)) (wrap64 (x7_1 + 1))))) else (scholiastref02_Char.l0 k4 a0 a1 (wrap64 (bt a0 a1)) (wrap64 (x7_1 + 1)))) = some (r1, r2) := by rw [if_pos rfl] at H; exact H
                                    clear H
                                    have H := H1
                                    clear H1
                                    by_cases c32 : x9_4 ≤ 1114111
                                    · rw [if_pos c32] at H
                                      have c32b0 : decide (x9_4 ≤ 1114111) = true := decide_eq_true c32
                                      clear c32
                                      by_cases c33 : x9_4 < 55296
                                      · rw [if_pos c33] at H
                                        have c33b0 : decide (x9_4 < 55296) = true := decide_eq_true c33
                                        clear c33
                                        obtain ⟨y226, hy226⟩ : ∃ y_ : List Int, y_ = (([128, 2048, 65536] : List Int)) := ⟨_, rfl⟩
                                        replace H : (if 0 ≤ (wrap64 (x7_1 - 2)) then (if (wrap64 (x7_1 - 2)) < (y226.length : Int) then (if x9_4 ≥ (rd y226 (wrap64 (x7_1 - 2))) then (some (x9_4, x7_1)) else (scholiastref02_Char.l0 k4 a0 a1 (wrap64 (bt a0 a1)) (wrap64 (x7_1 + 1)))) else (none)) else (none)) = some (r1, r2) := by first | (rw [hy226]; with_reducible exact H) | (have H2_ := (Option.bind_some _ _).symm.trans H; rw [hy226]; with_reducible exact H2_) | (have H2_ := (Option.bind_some _ _).symm.trans H; with_reducible exact H2_) | with_reducible exact H | (rw [hy226]; exact H) | exact H
                                        have Ny226 := Aside0.mk hy226
                                        clear hy226
                                        replace H : (if 0 ≤ (ji11) then (if (ji11) < (y226.length : Int) then (if x9_4 ≥ (rd y226 (ji11)) then (some (x9_4, x7_1)) else (scholiastref02_Char.l0 k4 a0 a1 (wrap64 (bt a0 a1)) (wrap64 (x7_1 + 1)))) else (none)) else (none)) = some (r1, r2) := by first | (rw [hji11] at H; exact H) | (simp only [hji11] at H ⊢; exact H) | exact H
                                        by_cases c34 : 0 ≤ (ji11)
                                        · rw [if_pos c34] at H
                                          have c34b0 : decide (0 ≤ (ji11)) = true := decide_eq_true c34
                                          clear c34
                                          by_cases c35 : (ji11) < (y226.length : Int)
                                          · rw [if_pos c35] at H
                                            have c35b0 : decide ((ji11) < (y226.length : Int)) = true := decide_eq_true c35
                                            clear c35
                                            by_cases c36 : x9_4 ≥ (rd y226 (ji11))
                                            · rw [if_pos c36] at H
                                              have c36b0 : decide ((rd y226 (ji11)) ≤ x9_4) = true := decide_eq_true c36
                                              clear c36
                                              simp only [Option.some.injEq, Prod.mk.injEq] at H
                                              obtain ⟨rfl, rfl⟩ := H
                                              go_wp2_with (first | ((with_reducible refine gate_dst (N := 92) rfl ?_); (try (refine gate_guard (by rfl) ?_; dsimp only)); refine Kd.R_lit (Kd.int .i64) _ 3 ?hg (N := 92) ?hd (xs := ([128, 2048, 65536] : List Int)) (inner := [.int .i64 128, .int .i64 2048, .int .i64 65536]) (ok := fun _ => True) (okp := fun _ => True) ?hr ?hp (fun _ hk => hk) trivial (Below.refl _ _) (Nat.le_refl _) (by simp) ?_; (case hd => rfl); (case hg => rfl); (case hr => first | (go_simp; done) | (go_simp; rfl)); (case hp => exact (Reps.one (show Kd.M (Kd.int .i64) _ _ _ 128 [.int .i64 128] from rfl) (Reps.one (show Kd.M (Kd.int .i64) _ _ _ 2048 [.int .i64 2048] from rfl) (Reps.one (show Kd.M (Kd.int .i64) _ _ _ 65536 [.int .i64 65536] from rfl) (Reps.none _ _))))); intro v227 w37 ho38 hb hg_ hnew_; clear hg_ hnew_; (first | rw [← Ny226.out] at ho38 | (simp only [Int.reduceToNat] at ho38; rw [← Ny226.out] at ho38)); have n0_ := Aside0.mk (Kd.R_lower ho38 (below_size (by repeat (first | (with_reducible first | exact HB.out | apply below_alloc | apply pw_below_drewN | apply below_drew1) | exact HB.out)))); have n1_ := Aside0.mk (below_step (by repeat (first | (with_reducible first | exact HB.out | apply below_alloc | apply pw_below_drewN | apply below_drew1) | exact HB.out)) hb); clear HB; have HO228 := n0_; have HB := n1_; clear n0_ n1_; clear hb ho38; obtain ⟨Ao39, co39, eo39⟩ := Kd.R_slice HO228.out; subst eo39; have p229 : 0 ≤ ((ji11) : Int) := of_decide_eq_true (by first | (with_reducible assumption) | assumption); have q229 : (ji11) < (y226.length : Int) := of_decide_eq_true (by first | (with_reducible assumption) | assumption); obtain ⟨ad229, e229, hx229_0⟩ := Kd.at_int (Kd.R_reads' HO228.out).2.2 (ji11) p229 q229; cases e229; replace p229 := eq_true p229; replace q229 := eq_true q229))
                                              go_ret2
                                              exact ⟨by first | rfl | (simp [errW_none, errW_some] <;> rfl) | (simp only [← hji11]; first | rfl | (simp [errW_none, errW_some] <;> rfl)) | (simp [*, errW_none, errW_some] <;> rfl), by repeat (first | (with_reducible first | exact HB.out | apply below_alloc | apply pw_below_drewN | apply below_drew1) | exact HB.out)⟩
                                            · rw [if_neg c36] at H
                                              have c36b0 : decide ((rd y226 (ji11)) ≤ x9_4) = false := decide_eq_false c36
                                              clear c36
                                              have H' := Aside0.mk H
                                              clear H
                                              go_wp2_with (first | ((with_reducible refine gate_dst (N := 92) rfl ?_); (try (refine gate_guard (by rfl) ?_; dsimp only)); refine Kd.R_lit (Kd.int .i64) _ 3 ?hg (N := 92) ?hd (xs := ([128, 2048, 65536] : List Int)) (inner := [.int .i64 128, .int .i64 2048, .int .i64 65536]) (ok := fun _ => True) (okp := fun _ => True) ?hr ?hp (fun _ hk => hk) trivial (Below.refl _ _) (Nat.le_refl _) (by simp) ?_; (case hd => rfl); (case hg => rfl); (case hr => first | (go_simp; done) | (go_simp; rfl)); (case hp => exact (Reps.one (show Kd.M (Kd.int .i64) _ _ _ 128 [.int .i64 128] from rfl) (Reps.one (show Kd.M (Kd.int .i64) _ _ _ 2048 [.int .i64 2048] from rfl) (Reps.one (show Kd.M (Kd.int .i64) _ _ _ 65536 [.int .i64 65536] from rfl) (Reps.none _ _))))); intro v227 w40 ho41 hb hg_ hnew_; clear hg_ hnew_; (first | rw [← Ny226.out] at ho41 | (simp only [Int.reduceToNat] at ho41; rw [← Ny226.out] at ho41)); have n0_ := Aside0.mk (Kd.R_lower ho41 (below_size (by repeat (first | (with_reducible first | exact HB.out | apply below_alloc | apply pw_below_drewN | apply below_drew1) | exact HB.out)))); have n1_ := Aside0.mk (below_step (by repeat (first | (with_reducible first | exact HB.out | apply below_alloc | apply pw_below_drewN | apply below_drew1) | exact HB.out)) hb); clear HB; have HO228 := n0_; have HB := n1_; clear n0_ n1_; clear hb ho41; obtain ⟨Ao42, co42, eo42⟩ := Kd.R_slice HO228.out; subst eo42; have p229 : 0 ≤ ((ji11) : Int) := of_decide_eq_true (by first | (with_reducible assumption) | assumption); have q229 : (ji11) < (y226.length : Int) := of_decide_eq_true (by first | (with_reducible assumption) | assumption); obtain ⟨ad229, e229, hx229_0⟩ := Kd.at_int (Kd.R_reads' HO228.out).2.2 (ji11) p229 q229; cases e229; replace p229 := eq_true p229; replace q229 := eq_true q229))
                                              go_roundg k4
                                              case measure => have := HK1.out; have := HJ7.out; have := HJ13.out; have := HK4.out; omega
                                              case rel => exact ⟨(wrap64 (x7_1 + 1)), (by first | rfl | (simp; done) | (simp [*]; done) | (simp [wrap64]; done) | (simp [isEmpty_bne]; done)), H', ⟨by have := HK1.out; have := HJ7.out; have := HJ13.out; have := HK4.out; omega⟩, ⟨by repeat (first | (with_reducible first | exact HB.out | apply below_alloc | apply pw_below_drewN | apply below_drew1) | exact HB.out)⟩⟩
                                          · rw [if_neg c35] at H
                                            exact absurd H (by simp)
                                        · rw [if_neg c34] at H
                                          exact absurd H (by simp)
                                      · rw [if_neg c33] at H
                                        have c33b0 : decide (x9_4 < 55296) = false := decide_eq_false c33
                                        clear c33
                                        by_cases c43 : x9_4 > 57343
                                        · rw [if_pos c43] at H
                                          have c43b0 : decide (57343 < x9_4) = true := decide_eq_true c43
                                          clear c43
                                          obtain ⟨y230, hy230⟩ : ∃ y_ : List Int, y_ = (([128, 2048, 65536] : List Int)) := ⟨_, rfl⟩
                                          replace H : (if 0 ≤ (wrap64 (x7_1 - 2)) then (if (wrap64 (x7_1 - 2)) < (y230.length : Int) then (if x9_4 ≥ (rd y230 (wrap64 (x7_1 - 2))) then (some (x9_4, x7_1)) else (scholiastref02_Char.l0 k4 a0 a1 (wrap64 (bt a0 a1)) (wrap64 (x7_1 + 1)))) else (none)) else (none)) = some (r1, r2) := by first | (rw [hy230]; with_reducible exact H) | (have H2_ := (Option.bind_some _ _).symm.trans H; rw [hy230]; with_reducible exact H2_) | (have H2_ := (Option.bind_some _ _).symm.trans H; with_reducible exact H2_) | with_reducible exact H | (rw [hy230]; exact H) | exact H
                                          have Ny230 := Aside0.mk hy230
                                          clear hy230
                                          replace H : (if 0 ≤ (ji11) then (if (ji11) < (y230.length : Int) then (if x9_4 ≥ (rd y230 (ji11)) then (some (x9_4, x7_1)) else (scholiastref02_Char.l0 k4 a0 a1 (wrap64 (bt a0 a1)) (wrap64 (x7_1 + 1)))) else (none)) else (none)) = some (r1, r2) := by first | (rw [hji11] at H; exact H) | (simp only [hji11] at H ⊢; exact H) | exact H
                                          by_cases c44 : 0 ≤ (ji11)
                                          · rw [if_pos c44] at H
                                            have c44b0 : decide (0 ≤ (ji11)) = true := decide_eq_true c44
                                            clear c44
                                            by_cases c45 : (ji11) < (y230.length : Int)
                                            · rw [if_pos c45] at H
                                              have c45b0 : decide ((ji11) < (y230.length : Int)) = true := decide_eq_true c45
                                              clear c45
                                              by_cases c46 : x9_4 ≥ (rd y230 (ji11))
                                              · rw [if_pos c46] at H
                                                have c46b0 : decide ((rd y230 (ji11)) ≤ x9_4) = true := decide_eq_true c46
                                                clear c46
                                                simp only [Option.some.injEq, Prod.mk.injEq] at H
                                                obtain ⟨rfl, rfl⟩ := H
                                                go_wp2_with (first | ((with_reducible refine gate_dst (N := 92) rfl ?_); (try (refine gate_guard (by rfl) ?_; dsimp only)); refine Kd.R_lit (Kd.int .i64) _ 3 ?hg (N := 92) ?hd (xs := ([128, 2048, 65536] : List Int)) (inner := [.int .i64 128, .int .i64 2048, .int .i64 65536]) (ok := fun _ => True) (okp := fun _ => True) ?hr ?hp (fun _ hk => hk) trivial (Below.refl _ _) (Nat.le_refl _) (by simp) ?_; (case hd => rfl); (case hg => rfl); (case hr => first | (go_simp; done) | (go_simp; rfl)); (case hp => exact (Reps.one (show Kd.M (Kd.int .i64) _ _ _ 128 [.int .i64 128] from rfl) (Reps.one (show Kd.M (Kd.int .i64) _ _ _ 2048 [.int .i64 2048] from rfl) (Reps.one (show Kd.M (Kd.int .i64) _ _ _ 65536 [.int .i64 65536] from rfl) (Reps.none _ _))))); intro v231 w47 ho48 hb hg_ hnew_; clear hg_ hnew_; (first | rw [← Ny230.out] at ho48 | (simp only [Int.reduceToNat] at ho48; rw [← Ny230.out] at ho48)); have n0_ := Aside0.mk (Kd.R_lower ho48 (below_size (by repeat (first | (with_reducible first | exact HB.out | apply below_alloc | apply pw_below_drewN | apply below_drew1) | exact HB.out)))); have n1_ := Aside0.mk (below_step (by repeat (first | (with_reducible first | exact HB.out | apply below_alloc | apply pw_below_drewN | apply below_drew1) | exact HB.out)) hb); clear HB; have HO232 := n0_; have HB := n1_; clear n0_ n1_; clear hb ho48; obtain ⟨Ao49, co49, eo49⟩ := Kd.R_slice HO232.out; subst eo49; have p233 : 0 ≤ ((ji11) : Int) := of_decide_eq_true (by first | (with_reducible assumption) | assumption); have q233 : (ji11) < (y230.length : Int) := of_decide_eq_true (by first | (with_reducible assumption) | assumption); obtain ⟨ad233, e233, hx233_0⟩ := Kd.at_int (Kd.R_reads' HO232.out).2.2 (ji11) p233 q233; cases e233; replace p233 := eq_true p233; replace q233 := eq_true q233))
                                                go_ret2
                                                exact ⟨by first | rfl | (simp [errW_none, errW_some] <;> rfl) | (simp only [← hji11]; first | rfl | (simp [errW_none, errW_some] <;> rfl)) | (simp [*, errW_none, errW_some] <;> rfl), by repeat (first | (with_reducible first | exact HB.out | apply below_alloc | apply pw_below_drewN | apply below_drew1) | exact HB.out)⟩
                                              · rw [if_neg c46] at H
                                                have c46b0 : decide ((rd y230 (ji11)) ≤ x9_4) = false := decide_eq_false c46
                                                clear c46
                                                have H' := Aside0.mk H
                                                clear H
                                                go_wp2_with (first | ((with_reducible refine gate_dst (N := 92) rfl ?_); (try (refine gate_guard (by rfl) ?_; dsimp only)); refine Kd.R_lit (Kd.int .i64) _ 3 ?hg (N := 92) ?hd (xs := ([128, 2048, 65536] : List Int)) (inner := [.int .i64 128, .int .i64 2048, .int .i64 65536]) (ok := fun _ => True) (okp := fun _ => True) ?hr ?hp (fun _ hk => hk) trivial (Below.refl _ _) (Nat.le_refl _) (by simp) ?_; (case hd => rfl); (case hg => rfl); (case hr => first | (go_simp; done) | (go_simp; rfl)); (case hp => exact (Reps.one (show Kd.M (Kd.int .i64) _ _ _ 128 [.int .i64 128] from rfl) (Reps.one (show Kd.M (Kd.int .i64) _ _ _ 2048 [.int .i64 2048] from rfl) (Reps.one (show Kd.M (Kd.int .i64) _ _ _ 65536 [.int .i64 65536] from rfl) (Reps.none _ _))))); intro v231 w50 ho51 hb hg_ hnew_; clear hg_ hnew_; (first | rw [← Ny230.out] at ho51 | (simp only [Int.reduceToNat] at ho51; rw [← Ny230.out] at ho51)); have n0_ := Aside0.mk (Kd.R_lower ho51 (below_size (by repeat (first | (with_reducible first | exact HB.out | apply below_alloc | apply pw_below_drewN | apply below_drew1) | exact HB.out)))); have n1_ := Aside0.mk (below_step (by repeat (first | (with_reducible first | exact HB.out | apply below_alloc | apply pw_below_drewN | apply below_drew1) | exact HB.out)) hb); clear HB; have HO232 := n0_; have HB := n1_; clear n0_ n1_; clear hb ho51; obtain ⟨Ao52, co52, eo52⟩ := Kd.R_slice HO232.out; subst eo52; have p233 : 0 ≤ ((ji11) : Int) := of_decide_eq_true (by first | (with_reducible assumption) | assumption); have q233 : (ji11) < (y230.length : Int) := of_decide_eq_true (by first | (with_reducible assumption) | assumption); obtain ⟨ad233, e233, hx233_0⟩ := Kd.at_int (Kd.R_reads' HO232.out).2.2 (ji11) p233 q233; cases e233; replace p233 := eq_true p233; replace q233 := eq_true q233))
                                                go_roundg k4
                                                case measure => have := HK1.out; have := HJ7.out; have := HJ13.out; have := HK4.out; omega
                                                case rel => exact ⟨(wrap64 (x7_1 + 1)), (by first | rfl | (simp; done) | (simp [*]; done) | (simp [wrap64]; done) | (simp [isEmpty_bne]; done)), H', ⟨by have := HK1.out; have := HJ7.out; have := HJ13.out; have := HK4.out; omega⟩, ⟨by repeat (first | (with_reducible first | exact HB.out | apply below_alloc | apply pw_below_drewN | apply below_drew1) | exact HB.out)⟩⟩
                                            · rw [if_neg c45] at H
                                              exact absurd H (by simp)
                                          · rw [if_neg c44] at H
                                            exact absurd H (by simp)
                                        · rw [if_neg c43] at H
                                          have c43b0 : decide (57343 < x9_4) = false := decide_eq_false c43
                                          clear c43
                                          have H' := Aside0.mk H
                                          clear H
                                          go_wp2
                                          go_roundg k4
                                          case measure => have := HK1.out; have := HJ7.out; have := HJ13.out; have := HK4.out; omega
                                          case rel => exact ⟨(wrap64 (x7_1 + 1)), (by first | rfl | (simp; done) | (simp [*]; done) | (simp [wrap64]; done) | (simp [isEmpty_bne]; done)), H', ⟨by have := HK1.out; have := HJ7.out; have := HJ13.out; have := HK4.out; omega⟩, ⟨by repeat (first | (with_reducible first | exact HB.out | apply below_alloc | apply pw_below_drewN | apply below_drew1) | exact HB.out)⟩⟩
                                    · rw [if_neg c32] at H
                                      have c32b0 : decide (x9_4 ≤ 1114111) = false := decide_eq_false c32
                                      clear c32
                                      have H' := Aside0.mk H
                                      clear H
                                      go_wp2
                                      go_roundg k4
                                      case measure => have := HK1.out; have := HJ7.out; have := HJ13.out; have := HK4.out; omega
                                      case rel => exact ⟨(wrap64 (x7_1 + 1)), (by first | rfl | (simp; done) | (simp [*]; done) | (simp [wrap64]; done) | (simp [isEmpty_bne]; done)), H', ⟨by have := HK1.out; have := HJ7.out; have := HJ13.out; have := HK4.out; omega⟩, ⟨by repeat (first | (with_reducible first | exact HB.out | apply below_alloc | apply pw_below_drewN | apply below_drew1) | exact HB.out)⟩⟩
                                  · replace c31 := Bool.eq_false_iff.mpr c31
                                    subst c31
                                    have H1 : (scholiastref02_Char.l0 k4 a0 a1 (wrap64 (bt a0 a1)) (wrap64 (x7_1 + 1))) = some (r1, r2) := by rw [if_neg (show ¬ (false = true) by decide)] at H; exact H
                                    clear H
                                    have H := H1
                                    clear H1
                                    have H' := Aside0.mk H
                                    clear H
                                    go_wp2
                                    go_roundg k4
                                    case measure => have := HK1.out; have := HJ7.out; have := HJ13.out; have := HK4.out; omega
                                    case rel => exact ⟨(wrap64 (x7_1 + 1)), (by first | rfl | (simp; done) | (simp [*]; done) | (simp [wrap64]; done) | (simp [isEmpty_bne]; done)), H', ⟨by have := HK1.out; have := HJ7.out; have := HJ13.out; have := HK4.out; omega⟩, ⟨by repeat (first | (with_reducible first | exact HB.out | apply below_alloc | apply pw_below_drewN | apply below_drew1) | exact HB.out)⟩⟩
                      · rw [if_neg c13] at H
                        exact absurd H (by simp)
                    · rw [if_neg c12] at H
                      exact absurd H (by simp)
                  · replace c10 := Bool.eq_false_iff.mpr c10
                    subst c10
                    have H1 : (some (0, 0)) = some (r1, r2) := by rw [if_neg (show ¬ (false = true) by decide)] at H; exact H
                    clear H
                    have H := H1
                    clear H1
                    simp only [Option.some.injEq, Prod.mk.injEq] at H
                    obtain ⟨rfl, rfl⟩ := H
                    go_wp2
                    go_ret2
                    exact ⟨by first | rfl | (simp [errW_none, errW_some] <;> rfl) | (simp [*, errW_none, errW_some] <;> rfl), by repeat (first | (with_reducible first | exact HB.out | apply below_alloc | apply pw_below_drewN | apply below_drew1) | exact HB.out)⟩
      · rw [if_neg c5] at H
        exact absurd H (by simp)
    · rw [if_neg c4] at H
      exact absurd H (by simp)

end Go.Proofs.YtkpceagbjodbbaaDoor.PA
