-- Printed by a program of this session (wip/xprint.py) for this claim: Lean checks it.
import Derived.Test.YtkpceagbjodbbaaDoorPA0
import Derived.Test.YtkpceagbjodbbaaDoorPA7
namespace Go.Proofs.YtkpceagbjodbbaaDoor.PA
open Go.RowKit Go.Proofs.YtkpceagbjodbbaaDoor.Ext Go.Proofs.YtkpceagbjodbbaaDoorW.PrintWords Go.Proofs.YtkpceagbjodbbaaDoorW.PrintLast Go.Proofs.YtkpceagbjodbbaaDoorW.PrintMore
attribute [local go_sem] max2_int min2_int max_two min_two max_three min_three max_four min_four   -- for this text's walks alone
set_option linter.unusedVariables false
set_option linter.unusedSimpArgs false

/-! ### token_Name: function 21 -/
mutual
def token_Name.j1 : Nat → Int → Option (ByteArray)
  | 0, _ => none
  | k + 1, x0 => if x0 = 1 then (some (⟨#[115, 112, 97, 99, 101]⟩ : ByteArray)) else (if x0 = 2 then (some (⟨#[102, 101, 101, 100]⟩ : ByteArray)) else (if x0 = 3 then (some (⟨#[99, 111, 109, 109, 101, 110, 116]⟩ : ByteArray)) else (if x0 = 4 then (some (⟨#[98, 108, 111, 99, 107]⟩ : ByteArray)) else (if x0 = 5 then (some (⟨#[98, 97, 100]⟩ : ByteArray)) else (if x0 = 10 then (some (⟨#[110, 97, 109, 101]⟩ : ByteArray)) else (if x0 = 11 then (some (⟨#[105, 110, 116]⟩ : ByteArray)) else (if x0 = 12 then (some (⟨#[114, 117, 110, 101]⟩ : ByteArray)) else (if x0 = 13 then (some (⟨#[115, 116, 114, 105, 110, 103]⟩ : ByteArray)) else (if x0 = 14 then (some (⟨#[114, 97, 119]⟩ : ByteArray)) else (if x0 = 16 then (some (⟨#[97, 117, 116, 111]⟩ : ByteArray)) else (some (⟨#[]⟩ : ByteArray))))))))))))
def token_Name.j0 : Nat → Int → Bool → Option (ByteArray)
  | 0, _, _ => none
  | k + 1, x0, x6 => if x6 = true then ((token_signs.f).bind fun t147 => (if 0 ≤ (wrap64 (x0 - 20)) then (if (wrap64 (x0 - 20)) < (t147.length : Int) then (some (rdOf ByteArray.empty t147 (wrap64 (x0 - 20)))) else (none)) else (none))) else (if x0 ≥ 70 then (if x0 ≤ 90 then ((token_words.f).bind fun t151 => (if 0 ≤ (wrap64 (x0 - 70)) then (if (wrap64 (x0 - 70)) < (t151.length : Int) then (some (rdOf ByteArray.empty t151 (wrap64 (x0 - 70)))) else (none)) else (none))) else (token_Name.j1 k x0)) else (token_Name.j1 k x0))
end
def token_Name.f (k : Nat) (a0 : Int) : Option (ByteArray) := if a0 = 15 then (some (⟨#[59]⟩ : ByteArray)) else (if a0 ≥ 20 then (token_Name.j0 k a0 (decide (a0 ≤ 65))) else (token_Name.j0 k a0 false))
theorem token_Name.mono_l : ∀ k, (∀ y0, LeO (token_Name.j1 k y0) (token_Name.j1 (k + 1) y0)) ∧ (∀ y0 y1, LeO (token_Name.j0 k y0 y1) (token_Name.j0 (k + 1) y0 y1))
  | 0 => ⟨fun _ r h => by simp [token_Name.j1] at h, fun _ _ r h => by simp [token_Name.j0] at h⟩
  | k + 1 => by
    obtain ⟨ih0, ih1⟩ := token_Name.mono_l k
    refine ⟨?_, ?_⟩
    · intro y0
      unfold token_Name.j1
      repeat' first
      | (with_reducible exact ih0 _)
      | (with_reducible exact ih1 _ _)
      | (with_reducible exact LeO.refl _)
      | (with_reducible exact LeO.none _)
      | (with_reducible refine LeO.ite ?_ ?_)
      | (with_reducible refine LeO.bind ?_ (fun _ => ?_))
      | exact ih0 _
      | exact ih1 _ _
      | exact LeO.none _
      | refine LeO.ite ?_ ?_
      | refine LeO.bind ?_ (fun _ => ?_)
    · intro y0 y1
      unfold token_Name.j0
      repeat' first
      | (with_reducible exact ih0 _)
      | (with_reducible exact ih1 _ _)
      | (with_reducible exact LeO.refl _)
      | (with_reducible exact LeO.none _)
      | (with_reducible refine LeO.ite ?_ ?_)
      | (with_reducible refine LeO.bind ?_ (fun _ => ?_))
      | exact ih0 _
      | exact ih1 _ _
      | exact LeO.none _
      | refine LeO.ite ?_ ?_
      | refine LeO.bind ?_ (fun _ => ?_)
theorem token_Name.mono : ∀ a0 k, LeO (token_Name.f k a0) (token_Name.f (k + 1) a0) := by
  intro a0 k
  obtain ⟨ih0, ih1⟩ := token_Name.mono_l k
  unfold token_Name.f
  repeat' first
      | (with_reducible exact ih0 _)
      | (with_reducible exact ih1 _ _)
      | (with_reducible exact LeO.refl _)
      | (with_reducible exact LeO.none _)
      | (with_reducible refine LeO.ite ?_ ?_)
      | (with_reducible refine LeO.bind ?_ (fun _ => ?_))
      | exact ih0 _
      | exact ih1 _ _
      | exact LeO.none _
      | refine LeO.ite ?_ ?_
      | refine LeO.bind ?_ (fun _ => ?_)
set_option maxHeartbeats 8000000 in
set_option maxRecDepth 100000 in
theorem token_Name.calls (k : Nat) (a0 : Int) (r : ByteArray) (w : World) (h : token_Name.f k a0 = some r) :
    Calls Tryd.prog 21 #[.int .i64 a0] w fun e w' => e = .returned (.string r) ∧ Below w.heap.size w w' := by
  have HB := Aside0.mk (Below.refl w.heap.size w)
  have H : (if a0 = 15 then (some (⟨#[59]⟩ : ByteArray)) else (if a0 ≥ 20 then (token_Name.j0 k a0 (decide (a0 ≤ 65))) else (token_Name.j0 k a0 false))) = some r := h
  clear h
  have HC2 := Aside0.mk H
  clear H
  go_enter Tryd.func21, Tryd.ntmps21
  go_upto_block 0 with (fail)
  go_cut [] (fun wc => ∃ (kq : Nat), Aside0 (token_Name.j1 kq a0 = some r) ∧ Aside0 (kq ≤ k) ∧ Aside0 (Below w.heap.size w wc))
  case first =>
    have H := HC2.out
    clear HC2
    by_cases c3 : a0 = 15
    · rw [if_pos c3] at H
      have c3b0 : (a0 == 15) = true := beq_iff_eq.mpr c3
      have c3b1 : (a0 != 15) = false := bne_eq_false_iff_eq.mpr c3
      clear c3
      (first | rw [c3b0] | (simp only [i64_w, i32_w]; rw [c3b0]) | skip)
      obtain rfl := Option.some.inj H
      go_wp2
      go_ret
      exact ⟨by first | rfl | (simp [errW_none, errW_some] <;> rfl) | (simp [*, errW_none, errW_some] <;> rfl), by repeat (first | (with_reducible first | exact HB.out | apply below_alloc | apply pw_below_drewN | apply below_drew1) | exact HB.out)⟩
    · rw [if_neg c3] at H
      have c3b0 : (a0 == 15) = false := beq_eq_false_iff_ne.mpr c3
      have c3b1 : (a0 != 15) = true := bne_iff_ne.mpr c3
      (first | rw [c3b0] | (simp only [i64_w, i32_w]; rw [c3b0]) | skip)
      have HC4 := Aside0.mk H
      clear H
      go_upto_region 3 with (fail)
      go_cut [6] (fun v6 wc => ∃ (kq : Nat) (x6_3 : Bool), v6 = .bool x6_3 ∧ Aside0 (token_Name.j0 kq a0 x6_3 = some r) ∧ Aside0 (kq ≤ k) ∧ Aside0 (Below w.heap.size w wc))
      case first =>
        have H := HC4.out
        clear HC4
        by_cases c5 : a0 ≥ 20
        · rw [if_pos c5] at H
          have c5b0 : decide (20 ≤ a0) = true := decide_eq_true c5
          clear c5
          (first | rw [c5b0] | (simp only [i64_w, i32_w]; rw [c5b0]) | skip)
          have H' := Aside0.mk H
          clear H
          go_wp2
          go_meet
          case rel => exact ⟨_, (decide (a0 ≤ 65)), (by first | rfl | (simp; done) | (simp [*]; done) | (simp [wrap64]; done) | (simp [isEmpty_bne]; done)), H', ⟨by first | omega | exact Nat.le_refl _⟩, ⟨by repeat (first | (with_reducible first | exact HB.out | apply below_alloc | apply pw_below_drewN | apply below_drew1) | exact HB.out)⟩⟩
        · rw [if_neg c5] at H
          have c5b0 : decide (20 ≤ a0) = false := decide_eq_false c5
          clear c5
          (first | rw [c5b0] | (simp only [i64_w, i32_w]; rw [c5b0]) | skip)
          have H' := Aside0.mk H
          clear H
          go_wp2
          go_meet
          case rel => exact ⟨_, (false), (by first | rfl | (simp; done) | (simp [*]; done) | (simp [wrap64]; done) | (simp [isEmpty_bne]; done)), H', ⟨by first | omega | exact Nat.le_refl _⟩, ⟨by repeat (first | (with_reducible first | exact HB.out | apply below_alloc | apply pw_below_drewN | apply below_drew1) | exact HB.out)⟩⟩
      case rest =>
        clear HC4
        try clear c2
        try clear p2
        try clear c3
        try clear c3b0
        try clear c3b1
        try clear c5
        try clear c5b0
        obtain ⟨kq, x6_3, rfl, HA, HJ3, HB⟩ := hcut
        cases kq with
        | zero => exact absurd HA.out (by simp [token_Name.j0])
        | succ kj3 =>
          have H := HA.out
          clear HA
          simp only [token_Name.j0] at H
          by_cases c6 : x6_3 = true
          · subst c6
            have H1 : ((token_signs.f).bind fun t147 => (if 0 ≤ (wrap64 (a0 - 20)) then (if (wrap64 (a0 - 20)) < (t147.length : Int) then (some (rdOf ByteArray.empty t147 (wrap64 (a0 - 20)))) else (none)) else (none))) = some r := by rw [if_pos rfl] at H; exact H
            clear H
            have H := H1
            clear H1
            replace H := Option.bind_eq_some_iff.mp H
            obtain ⟨t147, A70, H⟩ := H
            replace H : (if 0 ≤ (wrap64 (a0 - 20)) then (if (wrap64 (a0 - 20)) < (t147.length : Int) then (some (rdOf ByteArray.empty t147 (wrap64 (a0 - 20)))) else (none)) else (none)) = some r := H
            have A7 := Aside0.mk A70
            clear A70
            obtain ⟨ji8, hji8⟩ : ∃ j_ : Int, (wrap64 (a0 - 20)) = j_ := ⟨_, rfl⟩
            replace H : (if 0 ≤ (ji8) then (if (ji8) < (t147.length : Int) then (some (rdOf ByteArray.empty t147 (ji8))) else (none)) else (none)) = some r := by first | (rw [hji8] at H; exact H) | (simp only [hji8] at H ⊢; exact H)
            (try rw [hji8] at A7)
            have hji8w : (IntKind.i64.wrap (a0 - 20)) = ji8 := (i64_w _).trans hji8
            by_cases c9 : 0 ≤ (ji8)
            · rw [if_pos c9] at H
              have c9b0 : decide (0 ≤ (ji8)) = true := decide_eq_true c9
              clear c9
              by_cases c10 : (ji8) < (t147.length : Int)
              · rw [if_pos c10] at H
                have c10b0 : decide ((ji8) < (t147.length : Int)) = true := decide_eq_true c10
                clear c10
                obtain rfl := Option.some.inj H
                go_wp2_with (first | ((with_reducible refine gate_callee (f := 32) rfl ?_); refine goesL_ (some 13) rfl rfl Tryd.func32 (by kernel_rfl) rfl #[] rfl (by (try simp only [List.map_toArray, List.map_cons, List.map_nil]); first | done | rfl | (simp only [List.length_drop, List.length_take]; rfl) | (rw [extract_all]; rfl)) ?_; (with_reducible refine (token_signs.calls  t147 _ A7.out).mono ?_); rintro e w11 ⟨v148, rfl, ho0, hb⟩; refine ⟨_, rfl, ?_⟩; have n0_ := Aside0.mk (Kd.R_lower ho0 (below_size (by repeat (first | (with_reducible first | exact HB.out | apply below_alloc | apply pw_below_drewN | apply below_drew1) | exact HB.out)))); have n1_ := Aside0.mk (below_step (by repeat (first | (with_reducible first | exact HB.out | apply below_alloc | apply pw_below_drewN | apply below_drew1) | exact HB.out)) hb); clear HB; have HO149 := n0_; have HB := n1_; clear n0_ n1_; (try clear hb); (try clear hb2); (try clear hk); (try clear hi); (try clear ho0); obtain ⟨Ao12, co12, eo12⟩ := Kd.R_slice HO149.out; subst eo12; have p150 : 0 ≤ ((ji8) : Int) := of_decide_eq_true (by first | (with_reducible assumption) | assumption); have q150 : (ji8) < (t147.length : Int) := of_decide_eq_true (by first | (with_reducible assumption) | assumption); obtain ⟨ad150, e150, hx150_0⟩ := Kd.at_string (Kd.R_reads' HO149.out).2.2 (ji8) p150 q150; cases e150; replace p150 := eq_true p150; replace q150 := eq_true q150))
                go_ret
                exact ⟨by first | rfl | (simp [errW_none, errW_some] <;> rfl) | (simp only [← hji8]; first | rfl | (simp [errW_none, errW_some] <;> rfl)) | (simp [*, errW_none, errW_some] <;> rfl), by repeat (first | (with_reducible first | exact HB.out | apply below_alloc | apply pw_below_drewN | apply below_drew1) | exact HB.out)⟩
              · rw [if_neg c10] at H
                exact absurd H (by simp)
            · rw [if_neg c9] at H
              exact absurd H (by simp)
          · replace c6 := Bool.eq_false_iff.mpr c6
            subst c6
            have H1 : (if a0 ≥ 70 then (if a0 ≤ 90 then ((token_words.f).bind fun t151 => (if 0 ≤ (wrap64 (a0 - 70)) then (if (wrap64 (a0 - 70)) < (t151.length : Int) then (some (rdOf ByteArray.empty t151 (wrap64 (a0 - 70)))) else (none)) else (none))) else (token_Name.j1 kj3 a0)) else (token_Name.j1 kj3 a0)) = some r := by rw [if_neg (show ¬ (false = true) by decide)] at H; exact H
            clear H
            have H := H1
            clear H1
            by_cases c13 : a0 ≥ 70
            · rw [if_pos c13] at H
              have c13b0 : decide (70 ≤ a0) = true := decide_eq_true c13
              clear c13
              by_cases c14 : a0 ≤ 90
              · rw [if_pos c14] at H
                have c14b0 : decide (a0 ≤ 90) = true := decide_eq_true c14
                clear c14
                replace H := Option.bind_eq_some_iff.mp H
                obtain ⟨t151, A150, H⟩ := H
                replace H : (if 0 ≤ (wrap64 (a0 - 70)) then (if (wrap64 (a0 - 70)) < (t151.length : Int) then (some (rdOf ByteArray.empty t151 (wrap64 (a0 - 70)))) else (none)) else (none)) = some r := H
                have A15 := Aside0.mk A150
                clear A150
                obtain ⟨ji16, hji16⟩ : ∃ j_ : Int, (wrap64 (a0 - 70)) = j_ := ⟨_, rfl⟩
                replace H : (if 0 ≤ (ji16) then (if (ji16) < (t151.length : Int) then (some (rdOf ByteArray.empty t151 (ji16))) else (none)) else (none)) = some r := by first | (rw [hji16] at H; exact H) | (simp only [hji16] at H ⊢; exact H)
                (try rw [hji16] at A15)
                have hji16w : (IntKind.i64.wrap (a0 - 70)) = ji16 := (i64_w _).trans hji16
                by_cases c17 : 0 ≤ (ji16)
                · rw [if_pos c17] at H
                  have c17b0 : decide (0 ≤ (ji16)) = true := decide_eq_true c17
                  clear c17
                  by_cases c18 : (ji16) < (t151.length : Int)
                  · rw [if_pos c18] at H
                    have c18b0 : decide ((ji16) < (t151.length : Int)) = true := decide_eq_true c18
                    clear c18
                    obtain rfl := Option.some.inj H
                    go_wp2_with (first | ((with_reducible refine gate_callee (f := 34) rfl ?_); refine goesL_ (some 25) rfl rfl Tryd.func34 (by kernel_rfl) rfl #[] rfl (by (try simp only [List.map_toArray, List.map_cons, List.map_nil]); first | done | rfl | (simp only [List.length_drop, List.length_take]; rfl) | (rw [extract_all]; rfl)) ?_; (with_reducible refine (token_words.calls  t151 _ A15.out).mono ?_); rintro e w19 ⟨v152, rfl, ho0, hb⟩; refine ⟨_, rfl, ?_⟩; have n0_ := Aside0.mk (Kd.R_lower ho0 (below_size (by repeat (first | (with_reducible first | exact HB.out | apply below_alloc | apply pw_below_drewN | apply below_drew1) | exact HB.out)))); have n1_ := Aside0.mk (below_step (by repeat (first | (with_reducible first | exact HB.out | apply below_alloc | apply pw_below_drewN | apply below_drew1) | exact HB.out)) hb); clear HB; have HO153 := n0_; have HB := n1_; clear n0_ n1_; (try clear hb); (try clear hb2); (try clear hk); (try clear hi); (try clear ho0); obtain ⟨Ao20, co20, eo20⟩ := Kd.R_slice HO153.out; subst eo20; have p154 : 0 ≤ ((ji16) : Int) := of_decide_eq_true (by first | (with_reducible assumption) | assumption); have q154 : (ji16) < (t151.length : Int) := of_decide_eq_true (by first | (with_reducible assumption) | assumption); obtain ⟨ad154, e154, hx154_0⟩ := Kd.at_string (Kd.R_reads' HO153.out).2.2 (ji16) p154 q154; cases e154; replace p154 := eq_true p154; replace q154 := eq_true q154))
                    go_ret
                    exact ⟨by first | rfl | (simp [errW_none, errW_some] <;> rfl) | (simp only [← hji16]; first | rfl | (simp [errW_none, errW_some] <;> rfl)) | (simp [*, errW_none, errW_some] <;> rfl), by repeat (first | (with_reducible first | exact HB.out | apply below_alloc | apply pw_below_drewN | apply below_drew1) | exact HB.out)⟩
                  · rw [if_neg c18] at H
                    exact absurd H (by simp)
                · rw [if_neg c17] at H
                  exact absurd H (by simp)
              · rw [if_neg c14] at H
                have c14b0 : decide (a0 ≤ 90) = false := decide_eq_false c14
                clear c14
                have H' := Aside0.mk H
                clear H
                go_wp2
                go_meet
                case rel => exact ⟨_, H', ⟨by have := HJ3.out; first | omega | exact Nat.le_refl _⟩, ⟨by repeat (first | (with_reducible first | exact HB.out | apply below_alloc | apply pw_below_drewN | apply below_drew1) | exact HB.out)⟩⟩
            · rw [if_neg c13] at H
              have c13b0 : decide (70 ≤ a0) = false := decide_eq_false c13
              clear c13
              have H' := Aside0.mk H
              clear H
              go_wp2
              go_meet
              case rel => exact ⟨_, H', ⟨by have := HJ3.out; first | omega | exact Nat.le_refl _⟩, ⟨by repeat (first | (with_reducible first | exact HB.out | apply below_alloc | apply pw_below_drewN | apply below_drew1) | exact HB.out)⟩⟩
  case rest =>
    clear HC2
    try clear c1
    try clear p1
    try clear q1
    try clear hx1
    try clear c2
    try clear p2
    try clear c3
    try clear c3b0
    try clear c3b1
    try clear c5
    try clear c5b0
    try clear c6
    try clear p6
    try clear c9
    try clear c9b0
    try clear c10
    try clear c10b0
    try clear c13
    try clear c13b0
    try clear c14
    try clear c14b0
    try clear p15
    try clear q15
    try clear hx15
    try clear c17
    try clear c17b0
    try clear c18
    try clear c18b0
    try clear hx150_0
    try clear hx154_0
    try clear p150
    try clear p154
    try clear p2
    try clear q150
    try clear q154
    obtain ⟨kq, HA, HJ1, HB⟩ := hcut
    cases kq with
    | zero => exact absurd HA.out (by simp [token_Name.j1])
    | succ kj1 =>
      have H := HA.out
      clear HA
      simp only [token_Name.j1] at H
      by_cases c21 : a0 = 1
      · rw [if_pos c21] at H
        have c21b0 : (a0 == 1) = true := beq_iff_eq.mpr c21
        have c21b1 : (a0 != 1) = false := bne_eq_false_iff_eq.mpr c21
        clear c21
        obtain rfl := Option.some.inj H
        go_wp2
        go_ret
        exact ⟨by first | rfl | (simp [errW_none, errW_some] <;> rfl) | (simp [*, errW_none, errW_some] <;> rfl), by repeat (first | (with_reducible first | exact HB.out | apply below_alloc | apply pw_below_drewN | apply below_drew1) | exact HB.out)⟩
      · rw [if_neg c21] at H
        have c21b0 : (a0 == 1) = false := beq_eq_false_iff_ne.mpr c21
        have c21b1 : (a0 != 1) = true := bne_iff_ne.mpr c21
        by_cases c22 : a0 = 2
        · rw [if_pos c22] at H
          have c22b0 : (a0 == 2) = true := beq_iff_eq.mpr c22
          have c22b1 : (a0 != 2) = false := bne_eq_false_iff_eq.mpr c22
          clear c22
          obtain rfl := Option.some.inj H
          go_wp2
          go_ret
          exact ⟨by first | rfl | (simp [errW_none, errW_some] <;> rfl) | (simp [*, errW_none, errW_some] <;> rfl), by repeat (first | (with_reducible first | exact HB.out | apply below_alloc | apply pw_below_drewN | apply below_drew1) | exact HB.out)⟩
        · rw [if_neg c22] at H
          have c22b0 : (a0 == 2) = false := beq_eq_false_iff_ne.mpr c22
          have c22b1 : (a0 != 2) = true := bne_iff_ne.mpr c22
          by_cases c23 : a0 = 3
          · rw [if_pos c23] at H
            have c23b0 : (a0 == 3) = true := beq_iff_eq.mpr c23
            have c23b1 : (a0 != 3) = false := bne_eq_false_iff_eq.mpr c23
            clear c23
            obtain rfl := Option.some.inj H
            go_wp2
            go_ret
            exact ⟨by first | rfl | (simp [errW_none, errW_some] <;> rfl) | (simp [*, errW_none, errW_some] <;> rfl), by repeat (first | (with_reducible first | exact HB.out | apply below_alloc | apply pw_below_drewN | apply below_drew1) | exact HB.out)⟩
          · rw [if_neg c23] at H
            have c23b0 : (a0 == 3) = false := beq_eq_false_iff_ne.mpr c23
            have c23b1 : (a0 != 3) = true := bne_iff_ne.mpr c23
            by_cases c24 : a0 = 4
            · rw [if_pos c24] at H
              have c24b0 : (a0 == 4) = true := beq_iff_eq.mpr c24
              have c24b1 : (a0 != 4) = false := bne_eq_false_iff_eq.mpr c24
              clear c24
              obtain rfl := Option.some.inj H
              go_wp2
              go_ret
              exact ⟨by first | rfl | (simp [errW_none, errW_some] <;> rfl) | (simp [*, errW_none, errW_some] <;> rfl), by repeat (first | (with_reducible first | exact HB.out | apply below_alloc | apply pw_below_drewN | apply below_drew1) | exact HB.out)⟩
            · rw [if_neg c24] at H
              have c24b0 : (a0 == 4) = false := beq_eq_false_iff_ne.mpr c24
              have c24b1 : (a0 != 4) = true := bne_iff_ne.mpr c24
              by_cases c25 : a0 = 5
              · rw [if_pos c25] at H
                have c25b0 : (a0 == 5) = true := beq_iff_eq.mpr c25
                have c25b1 : (a0 != 5) = false := bne_eq_false_iff_eq.mpr c25
                clear c25
                obtain rfl := Option.some.inj H
                go_wp2
                go_ret
                exact ⟨by first | rfl | (simp [errW_none, errW_some] <;> rfl) | (simp [*, errW_none, errW_some] <;> rfl), by repeat (first | (with_reducible first | exact HB.out | apply below_alloc | apply pw_below_drewN | apply below_drew1) | exact HB.out)⟩
              · rw [if_neg c25] at H
                have c25b0 : (a0 == 5) = false := beq_eq_false_iff_ne.mpr c25
                have c25b1 : (a0 != 5) = true := bne_iff_ne.mpr c25
                by_cases c26 : a0 = 10
                · rw [if_pos c26] at H
                  have c26b0 : (a0 == 10) = true := beq_iff_eq.mpr c26
                  have c26b1 : (a0 != 10) = false := bne_eq_false_iff_eq.mpr c26
                  clear c26
                  obtain rfl := Option.some.inj H
                  go_wp2
                  go_ret
                  exact ⟨by first | rfl | (simp [errW_none, errW_some] <;> rfl) | (simp [*, errW_none, errW_some] <;> rfl), by repeat (first | (with_reducible first | exact HB.out | apply below_alloc | apply pw_below_drewN | apply below_drew1) | exact HB.out)⟩
                · rw [if_neg c26] at H
                  have c26b0 : (a0 == 10) = false := beq_eq_false_iff_ne.mpr c26
                  have c26b1 : (a0 != 10) = true := bne_iff_ne.mpr c26
                  by_cases c27 : a0 = 11
                  · rw [if_pos c27] at H
                    have c27b0 : (a0 == 11) = true := beq_iff_eq.mpr c27
                    have c27b1 : (a0 != 11) = false := bne_eq_false_iff_eq.mpr c27
                    clear c27
                    obtain rfl := Option.some.inj H
                    go_wp2
                    go_ret
                    exact ⟨by first | rfl | (simp [errW_none, errW_some] <;> rfl) | (simp [*, errW_none, errW_some] <;> rfl), by repeat (first | (with_reducible first | exact HB.out | apply below_alloc | apply pw_below_drewN | apply below_drew1) | exact HB.out)⟩
                  · rw [if_neg c27] at H
                    have c27b0 : (a0 == 11) = false := beq_eq_false_iff_ne.mpr c27
                    have c27b1 : (a0 != 11) = true := bne_iff_ne.mpr c27
                    by_cases c28 : a0 = 12
                    · rw [if_pos c28] at H
                      have c28b0 : (a0 == 12) = true := beq_iff_eq.mpr c28
                      have c28b1 : (a0 != 12) = false := bne_eq_false_iff_eq.mpr c28
                      clear c28
                      obtain rfl := Option.some.inj H
                      go_wp2
                      go_ret
                      exact ⟨by first | rfl | (simp [errW_none, errW_some] <;> rfl) | (simp [*, errW_none, errW_some] <;> rfl), by repeat (first | (with_reducible first | exact HB.out | apply below_alloc | apply pw_below_drewN | apply below_drew1) | exact HB.out)⟩
                    · rw [if_neg c28] at H
                      have c28b0 : (a0 == 12) = false := beq_eq_false_iff_ne.mpr c28
                      have c28b1 : (a0 != 12) = true := bne_iff_ne.mpr c28
                      by_cases c29 : a0 = 13
                      · rw [if_pos c29] at H
                        have c29b0 : (a0 == 13) = true := beq_iff_eq.mpr c29
                        have c29b1 : (a0 != 13) = false := bne_eq_false_iff_eq.mpr c29
                        clear c29
                        obtain rfl := Option.some.inj H
                        go_wp2
                        go_ret
                        exact ⟨by first | rfl | (simp [errW_none, errW_some] <;> rfl) | (simp [*, errW_none, errW_some] <;> rfl), by repeat (first | (with_reducible first | exact HB.out | apply below_alloc | apply pw_below_drewN | apply below_drew1) | exact HB.out)⟩
                      · rw [if_neg c29] at H
                        have c29b0 : (a0 == 13) = false := beq_eq_false_iff_ne.mpr c29
                        have c29b1 : (a0 != 13) = true := bne_iff_ne.mpr c29
                        by_cases c30 : a0 = 14
                        · rw [if_pos c30] at H
                          have c30b0 : (a0 == 14) = true := beq_iff_eq.mpr c30
                          have c30b1 : (a0 != 14) = false := bne_eq_false_iff_eq.mpr c30
                          clear c30
                          obtain rfl := Option.some.inj H
                          go_wp2
                          go_ret
                          exact ⟨by first | rfl | (simp [errW_none, errW_some] <;> rfl) | (simp [*, errW_none, errW_some] <;> rfl), by repeat (first | (with_reducible first | exact HB.out | apply below_alloc | apply pw_below_drewN | apply below_drew1) | exact HB.out)⟩
                        · rw [if_neg c30] at H
                          have c30b0 : (a0 == 14) = false := beq_eq_false_iff_ne.mpr c30
                          have c30b1 : (a0 != 14) = true := bne_iff_ne.mpr c30
                          by_cases c31 : a0 = 16
                          · rw [if_pos c31] at H
                            have c31b0 : (a0 == 16) = true := beq_iff_eq.mpr c31
                            have c31b1 : (a0 != 16) = false := bne_eq_false_iff_eq.mpr c31
                            clear c31
                            obtain rfl := Option.some.inj H
                            go_wp2
                            go_ret
                            exact ⟨by first | rfl | (simp [errW_none, errW_some] <;> rfl) | (simp [*, errW_none, errW_some] <;> rfl), by repeat (first | (with_reducible first | exact HB.out | apply below_alloc | apply pw_below_drewN | apply below_drew1) | exact HB.out)⟩
                          · rw [if_neg c31] at H
                            have c31b0 : (a0 == 16) = false := beq_eq_false_iff_ne.mpr c31
                            have c31b1 : (a0 != 16) = true := bne_iff_ne.mpr c31
                            obtain rfl := Option.some.inj H
                            go_wp2
                            go_ret
                            exact ⟨by first | rfl | (simp [errW_none, errW_some] <;> rfl) | (simp [*, errW_none, errW_some] <;> rfl), by repeat (first | (with_reducible first | exact HB.out | apply below_alloc | apply pw_below_drewN | apply below_drew1) | exact HB.out)⟩

/-! ### token_Plain: function 22 -/
def token_Plain.f (a0 : Int) : Option (Int) := if a0 < 31 then (some 0) else (if a0 > 41 then (some 0) else (some (wrap64 (a0 - 11))))
set_option maxHeartbeats 8000000 in
set_option maxRecDepth 100000 in
theorem token_Plain.calls (a0 : Int) (r : Int) (w : World) (h : token_Plain.f a0 = some r) :
    Calls Tryd.prog 22 #[.int .i64 a0] w fun e w' => e = .returned (.int .i64 r) ∧ Drawn0 w w' := by
  have H : (if a0 < 31 then (some 0) else (if a0 > 41 then (some 0) else (some (wrap64 (a0 - 11))))) = some r := h
  clear h
  by_cases c2 : a0 < 31
  · rw [if_pos c2] at H
    have c2b0 : decide (a0 < 31) = true := decide_eq_true c2
    clear c2
    obtain rfl := Option.some.inj H
    go_enter Tryd.func22, Tryd.ntmps22
    go_wp2
    go_ret
    exact ⟨by first | rfl | (simp; done) | (simp [*]; done) | (simp [wrap64]; done) | (simp [isEmpty_bne]; done), by repeat (first | exact Drawn0.refl _ | apply Drawn0.step)⟩
  · rw [if_neg c2] at H
    have c2b0 : decide (a0 < 31) = false := decide_eq_false c2
    clear c2
    by_cases c3 : a0 > 41
    · rw [if_pos c3] at H
      have c3b0 : decide (41 < a0) = true := decide_eq_true c3
      clear c3
      obtain rfl := Option.some.inj H
      go_enter Tryd.func22, Tryd.ntmps22
      go_wp2
      go_ret
      exact ⟨by first | rfl | (simp; done) | (simp [*]; done) | (simp [wrap64]; done) | (simp [isEmpty_bne]; done), by repeat (first | exact Drawn0.refl _ | apply Drawn0.step)⟩
    · rw [if_neg c3] at H
      have c3b0 : decide (41 < a0) = false := decide_eq_false c3
      clear c3
      obtain rfl := Option.some.inj H
      go_enter Tryd.func22, Tryd.ntmps22
      go_wp2
      go_ret
      exact ⟨by first | rfl | (simp; done) | (simp [*]; done) | (simp [wrap64]; done) | (simp [isEmpty_bne]; done), by repeat (first | exact Drawn0.refl _ | apply Drawn0.step)⟩

end Go.Proofs.YtkpceagbjodbbaaDoor.PA
