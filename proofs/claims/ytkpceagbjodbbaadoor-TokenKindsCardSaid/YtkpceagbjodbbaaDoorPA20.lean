-- Printed by a program of this session (wip/xprint.py) for this claim: Lean checks it.
import Derived.Test.YtkpceagbjodbbaaDoorPA0
import Derived.Test.YtkpceagbjodbbaaDoorPA10
import Derived.Test.YtkpceagbjodbbaaDoorPA11
namespace Go.Proofs.YtkpceagbjodbbaaDoor.PA
open Go.RowKit Go.Proofs.YtkpceagbjodbbaaDoor.Ext Go.Proofs.YtkpceagbjodbbaaDoorW.PrintWords Go.Proofs.YtkpceagbjodbbaaDoorW.PrintLast Go.Proofs.YtkpceagbjodbbaaDoorW.PrintMore
attribute [local go_sem] max2_int min2_int max_two min_two max_three min_three max_four min_four   -- for this text's walks alone
set_option linter.unusedVariables false
set_option linter.unusedSimpArgs false

/-! ### scholiastref02_Name: function 24 -/
mutual
def scholiastref02_Name.j0 : Nat → Int → Bool → Option (ByteArray)
  | 0, _, _ => none
  | k + 1, x0, x3 => if x3 = true then ((scholiastref02_cut.f k (⟨#[115, 112, 97, 99, 101, 32, 102, 101, 101, 100, 32, 99, 111, 109, 109, 101, 110, 116, 32, 98, 108, 111, 99, 107, 32, 98, 97, 100]⟩ : ByteArray)).bind fun t239 => (if 0 ≤ (wrap64 (x0 - 1)) then (if (wrap64 (x0 - 1)) < (t239.length : Int) then (some (rdOf ByteArray.empty t239 (wrap64 (x0 - 1)))) else (none)) else (none))) else (if x0 ≥ 10 then (scholiastref02_Name.j1 k x0 (decide ((x0 : Int) ≤ 16))) else (scholiastref02_Name.j1 k x0 false))
def scholiastref02_Name.j1 : Nat → Int → Bool → Option (ByteArray)
  | 0, _, _ => none
  | k + 1, x0, x15 => if x15 = true then ((scholiastref02_cut.f k (⟨#[110, 97, 109, 101, 32, 105, 110, 116, 32, 114, 117, 110, 101, 32, 115, 116, 114, 105, 110, 103, 32, 114, 97, 119, 32, 59, 32, 97, 117, 116, 111]⟩ : ByteArray)).bind fun t243 => (if 0 ≤ (wrap64 (x0 - 10)) then (if (wrap64 (x0 - 10)) < (t243.length : Int) then (some (rdOf ByteArray.empty t243 (wrap64 (x0 - 10)))) else (none)) else (none))) else (if x0 ≥ 20 then (scholiastref02_Name.j2 k x0 (decide ((x0 : Int) ≤ 65))) else (scholiastref02_Name.j2 k x0 false))
def scholiastref02_Name.j2 : Nat → Int → Bool → Option (ByteArray)
  | 0, _, _ => none
  | k + 1, x0, x27 => if x27 = true then ((scholiastref02_Signs.f k).bind fun t247 => (if 0 ≤ (wrap64 (x0 - 20)) then (if (wrap64 (x0 - 20)) < (t247.length : Int) then (some (rdOf ByteArray.empty t247 (wrap64 (x0 - 20)))) else (none)) else (none))) else (if x0 ≥ 70 then (if x0 ≤ 90 then ((scholiastref02_Keywords.f k).bind fun t251 => (if 0 ≤ (wrap64 (x0 - 70)) then (if (wrap64 (x0 - 70)) < (t251.length : Int) then (some (rdOf ByteArray.empty t251 (wrap64 (x0 - 70)))) else (none)) else (none))) else (some (⟨#[]⟩ : ByteArray))) else (some (⟨#[]⟩ : ByteArray)))
end
def scholiastref02_Name.f (k : Nat) (a0 : Int) : Option (ByteArray) := if a0 ≥ 1 then (scholiastref02_Name.j0 k a0 (decide (a0 ≤ 5))) else (scholiastref02_Name.j0 k a0 false)
theorem scholiastref02_Name.mono_l : ∀ k, (∀ y0 y1, LeO (scholiastref02_Name.j0 k y0 y1) (scholiastref02_Name.j0 (k + 1) y0 y1)) ∧ (∀ y0 y1, LeO (scholiastref02_Name.j1 k y0 y1) (scholiastref02_Name.j1 (k + 1) y0 y1)) ∧ (∀ y0 y1, LeO (scholiastref02_Name.j2 k y0 y1) (scholiastref02_Name.j2 (k + 1) y0 y1))
  | 0 => ⟨fun _ _ r h => by simp [scholiastref02_Name.j0] at h, fun _ _ r h => by simp [scholiastref02_Name.j1] at h, fun _ _ r h => by simp [scholiastref02_Name.j2] at h⟩
  | k + 1 => by
    obtain ⟨ih0, ih1, ih2⟩ := scholiastref02_Name.mono_l k
    refine ⟨?_, ?_, ?_⟩
    · intro y0 y1
      unfold scholiastref02_Name.j0
      repeat' first
      | (with_reducible exact ih0 _ _)
      | (with_reducible exact ih1 _ _)
      | (with_reducible exact ih2 _ _)
      | (with_reducible exact scholiastref02_Keywords.mono _)
      | (with_reducible exact scholiastref02_Signs.mono _)
      | (with_reducible exact scholiastref02_cut.mono _ _)
      | (with_reducible exact LeO.refl _)
      | (with_reducible exact LeO.none _)
      | (with_reducible refine LeO.ite ?_ ?_)
      | (with_reducible refine LeO.bind ?_ (fun _ => ?_))
      | exact ih0 _ _
      | exact ih1 _ _
      | exact ih2 _ _
      | exact scholiastref02_Keywords.mono _
      | exact scholiastref02_Signs.mono _
      | exact scholiastref02_cut.mono _ _
      | exact LeO.none _
      | refine LeO.ite ?_ ?_
      | refine LeO.bind ?_ (fun _ => ?_)
    · intro y0 y1
      unfold scholiastref02_Name.j1
      repeat' first
      | (with_reducible exact ih0 _ _)
      | (with_reducible exact ih1 _ _)
      | (with_reducible exact ih2 _ _)
      | (with_reducible exact scholiastref02_Keywords.mono _)
      | (with_reducible exact scholiastref02_Signs.mono _)
      | (with_reducible exact scholiastref02_cut.mono _ _)
      | (with_reducible exact LeO.refl _)
      | (with_reducible exact LeO.none _)
      | (with_reducible refine LeO.ite ?_ ?_)
      | (with_reducible refine LeO.bind ?_ (fun _ => ?_))
      | exact ih0 _ _
      | exact ih1 _ _
      | exact ih2 _ _
      | exact scholiastref02_Keywords.mono _
      | exact scholiastref02_Signs.mono _
      | exact scholiastref02_cut.mono _ _
      | exact LeO.none _
      | refine LeO.ite ?_ ?_
      | refine LeO.bind ?_ (fun _ => ?_)
    · intro y0 y1
      unfold scholiastref02_Name.j2
      repeat' first
      | (with_reducible exact ih0 _ _)
      | (with_reducible exact ih1 _ _)
      | (with_reducible exact ih2 _ _)
      | (with_reducible exact scholiastref02_Keywords.mono _)
      | (with_reducible exact scholiastref02_Signs.mono _)
      | (with_reducible exact scholiastref02_cut.mono _ _)
      | (with_reducible exact LeO.refl _)
      | (with_reducible exact LeO.none _)
      | (with_reducible refine LeO.ite ?_ ?_)
      | (with_reducible refine LeO.bind ?_ (fun _ => ?_))
      | exact ih0 _ _
      | exact ih1 _ _
      | exact ih2 _ _
      | exact scholiastref02_Keywords.mono _
      | exact scholiastref02_Signs.mono _
      | exact scholiastref02_cut.mono _ _
      | exact LeO.none _
      | refine LeO.ite ?_ ?_
      | refine LeO.bind ?_ (fun _ => ?_)
theorem scholiastref02_Name.mono : ∀ a0 k, LeO (scholiastref02_Name.f k a0) (scholiastref02_Name.f (k + 1) a0) := by
  intro a0 k
  obtain ⟨ih0, ih1, ih2⟩ := scholiastref02_Name.mono_l k
  unfold scholiastref02_Name.f
  repeat' first
      | (with_reducible exact ih0 _ _)
      | (with_reducible exact ih1 _ _)
      | (with_reducible exact ih2 _ _)
      | (with_reducible exact scholiastref02_Keywords.mono _)
      | (with_reducible exact scholiastref02_Signs.mono _)
      | (with_reducible exact scholiastref02_cut.mono _ _)
      | (with_reducible exact LeO.refl _)
      | (with_reducible exact LeO.none _)
      | (with_reducible refine LeO.ite ?_ ?_)
      | (with_reducible refine LeO.bind ?_ (fun _ => ?_))
      | exact ih0 _ _
      | exact ih1 _ _
      | exact ih2 _ _
      | exact scholiastref02_Keywords.mono _
      | exact scholiastref02_Signs.mono _
      | exact scholiastref02_cut.mono _ _
      | exact LeO.none _
      | refine LeO.ite ?_ ?_
      | refine LeO.bind ?_ (fun _ => ?_)
set_option maxHeartbeats 8000000 in
set_option maxRecDepth 100000 in
theorem scholiastref02_Name.calls (k : Nat) (a0 : Int) (r : ByteArray) (w : World) (h : scholiastref02_Name.f k a0 = some r) :
    Calls Tryd.prog 24 #[.int .i64 a0] w fun e w' => e = .returned (.string r) ∧ Below w.heap.size w w' := by
  have HB := Aside0.mk (Below.refl w.heap.size w)
  have H : (if a0 ≥ 1 then (scholiastref02_Name.j0 k a0 (decide (a0 ≤ 5))) else (scholiastref02_Name.j0 k a0 false)) = some r := h
  clear h
  have HC2 := Aside0.mk H
  clear H
  go_enter Tryd.func24, Tryd.ntmps24
  go_upto_region 1 with (fail)
  go_cut [3] (fun v3 wc => ∃ (kq : Nat) (x3_1 : Bool), v3 = .bool x3_1 ∧ Aside0 (scholiastref02_Name.j0 kq a0 x3_1 = some r) ∧ Aside0 (kq ≤ k) ∧ Aside0 (Below w.heap.size w wc))
  case first =>
    have H := HC2.out
    clear HC2
    by_cases c3 : a0 ≥ 1
    · rw [if_pos c3] at H
      have c3b0 : decide (1 ≤ a0) = true := decide_eq_true c3
      clear c3
      (first | rw [c3b0] | (simp only [i64_w, i32_w]; rw [c3b0]) | skip)
      have H' := Aside0.mk H
      clear H
      go_wp2
      go_meet
      case rel => exact ⟨_, (decide (a0 ≤ 5)), (by first | rfl | (simp; done) | (simp [*]; done) | (simp [wrap64]; done) | (simp [isEmpty_bne]; done)), H', ⟨by first | omega | exact Nat.le_refl _⟩, ⟨by repeat (first | (with_reducible first | exact HB.out | apply below_alloc | apply pw_below_drewN | apply below_drew1) | exact HB.out)⟩⟩
    · rw [if_neg c3] at H
      have c3b0 : decide (1 ≤ a0) = false := decide_eq_false c3
      clear c3
      (first | rw [c3b0] | (simp only [i64_w, i32_w]; rw [c3b0]) | skip)
      have H' := Aside0.mk H
      clear H
      go_wp2
      go_meet
      case rel => exact ⟨_, (false), (by first | rfl | (simp; done) | (simp [*]; done) | (simp [wrap64]; done) | (simp [isEmpty_bne]; done)), H', ⟨by first | omega | exact Nat.le_refl _⟩, ⟨by repeat (first | (with_reducible first | exact HB.out | apply below_alloc | apply pw_below_drewN | apply below_drew1) | exact HB.out)⟩⟩
  case rest =>
    clear HC2
    try clear c2
    try clear p2
    try clear c3
    try clear c3b0
    obtain ⟨kq, x3_1, rfl, HA, HJ1, HB⟩ := hcut
    cases kq with
    | zero => exact absurd HA.out (by simp [scholiastref02_Name.j0])
    | succ kj1 =>
      have H := HA.out
      clear HA
      simp only [scholiastref02_Name.j0] at H
      by_cases c4 : x3_1 = true
      · subst c4
        have H1 : ((scholiastref02_cut.f kj1 (⟨#[115, 112, 97, 99, 101, 32, 102, 101, 101, 100, 32, 99, 111, 109, 109, 101, 110, 116, 32, 98, 108, 111, 99, 107, 32, 98, 97, 100]⟩ : ByteArray)).bind fun t239 => (if 0 ≤ (wrap64 (a0 - 1)) then (if (wrap64 (a0 - 1)) < (t239.length : Int) then (some (rdOf ByteArray.empty t239 (wrap64 (a0 - 1)))) else (none)) else (none))) = some r := by rw [if_pos rfl] at H; exact H
        clear H
        have H := H1
        clear H1
        replace H := Option.bind_eq_some_iff.mp H
        obtain ⟨t239, A50, H⟩ := H
        replace H : (if 0 ≤ (wrap64 (a0 - 1)) then (if (wrap64 (a0 - 1)) < (t239.length : Int) then (some (rdOf ByteArray.empty t239 (wrap64 (a0 - 1)))) else (none)) else (none)) = some r := H
        have A5 := Aside0.mk A50
        clear A50
        obtain ⟨ji6, hji6⟩ : ∃ j_ : Int, (wrap64 (a0 - 1)) = j_ := ⟨_, rfl⟩
        replace H : (if 0 ≤ (ji6) then (if (ji6) < (t239.length : Int) then (some (rdOf ByteArray.empty t239 (ji6))) else (none)) else (none)) = some r := by first | (rw [hji6] at H; exact H) | (simp only [hji6] at H ⊢; exact H)
        (try rw [hji6] at A5)
        have hji6w : (IntKind.i64.wrap (a0 - 1)) = ji6 := (i64_w _).trans hji6
        by_cases c7 : 0 ≤ (ji6)
        · rw [if_pos c7] at H
          have c7b0 : decide (0 ≤ (ji6)) = true := decide_eq_true c7
          clear c7
          by_cases c8 : (ji6) < (t239.length : Int)
          · rw [if_pos c8] at H
            have c8b0 : decide ((ji6) < (t239.length : Int)) = true := decide_eq_true c8
            clear c8
            obtain rfl := Option.some.inj H
            go_wp2_with (first | ((with_reducible refine gate_callee (f := 49) rfl ?_); refine goesL_ (some 10) rfl rfl Tryd.func49 (by kernel_rfl) rfl #[.string (⟨#[115, 112, 97, 99, 101, 32, 102, 101, 101, 100, 32, 99, 111, 109, 109, 101, 110, 116, 32, 98, 108, 111, 99, 107, 32, 98, 97, 100]⟩ : ByteArray)] rfl (by (try simp only [List.map_toArray, List.map_cons, List.map_nil]); first | done | rfl | (simp only [List.length_drop, List.length_take]; rfl) | (rw [extract_all]; rfl)) ?_; (with_reducible refine (scholiastref02_cut.calls kj1 (⟨#[115, 112, 97, 99, 101, 32, 102, 101, 101, 100, 32, 99, 111, 109, 109, 101, 110, 116, 32, 98, 108, 111, 99, 107, 32, 98, 97, 100]⟩ : ByteArray) t239 _ A5.out).mono ?_); rintro e w9 ⟨v240, rfl, ho0, hb⟩; refine ⟨_, rfl, ?_⟩; have n0_ := Aside0.mk (Kd.R_lower ho0 (below_size (by repeat (first | (with_reducible first | exact HB.out | apply below_alloc | apply pw_below_drewN | apply below_drew1) | exact HB.out)))); have n1_ := Aside0.mk (below_step (by repeat (first | (with_reducible first | exact HB.out | apply below_alloc | apply pw_below_drewN | apply below_drew1) | exact HB.out)) hb); clear HB; have HO241 := n0_; have HB := n1_; clear n0_ n1_; (try clear hb); (try clear hb2); (try clear hk); (try clear hi); (try clear ho0); obtain ⟨Ao10, co10, eo10⟩ := Kd.R_slice HO241.out; subst eo10; have p242 : 0 ≤ ((ji6) : Int) := of_decide_eq_true (by first | (with_reducible assumption) | assumption); have q242 : (ji6) < (t239.length : Int) := of_decide_eq_true (by first | (with_reducible assumption) | assumption); obtain ⟨ad242, e242, hx242_0⟩ := Kd.at_string (Kd.R_reads' HO241.out).2.2 (ji6) p242 q242; cases e242; replace p242 := eq_true p242; replace q242 := eq_true q242))
            go_ret
            exact ⟨by first | rfl | (simp [errW_none, errW_some] <;> rfl) | (simp only [← hji6]; first | rfl | (simp [errW_none, errW_some] <;> rfl)) | (simp [*, errW_none, errW_some] <;> rfl), by repeat (first | (with_reducible first | exact HB.out | apply below_alloc | apply pw_below_drewN | apply below_drew1) | exact HB.out)⟩
          · rw [if_neg c8] at H
            exact absurd H (by simp)
        · rw [if_neg c7] at H
          exact absurd H (by simp)
      · replace c4 := Bool.eq_false_iff.mpr c4
        subst c4
        have H1 : (if a0 ≥ 10 then (scholiastref02_Name.j1 kj1 a0 (decide ((a0 : Int) ≤ 16))) else (scholiastref02_Name.j1 kj1 a0 false)) = some r := by rw [if_neg (show ¬ (false = true) by decide)] at H; exact H
        clear H
        have H := H1
        clear H1
        have HC11 := Aside0.mk H
        clear H
        go_upto_region 3 with (fail)
        go_cut [15] (fun v15 wc => ∃ (kq : Nat) (x15_10 : Bool), v15 = .bool x15_10 ∧ Aside0 (scholiastref02_Name.j1 kq a0 x15_10 = some r) ∧ Aside0 (kq ≤ kj1) ∧ Aside0 (Below w.heap.size w wc))
        case first =>
          have H := HC11.out
          clear HC11
          by_cases c12 : a0 ≥ 10
          · rw [if_pos c12] at H
            have c12b0 : decide (10 ≤ a0) = true := decide_eq_true c12
            clear c12
            (first | rw [c12b0] | (simp only [i64_w, i32_w]; rw [c12b0]) | skip)
            have H' := Aside0.mk H
            clear H
            go_wp2
            go_meet
            case rel => exact ⟨_, (decide ((a0 : Int) ≤ 16)), (by first | rfl | (simp; done) | (simp [*]; done) | (simp [wrap64]; done) | (simp [isEmpty_bne]; done)), H', ⟨by have := HJ1.out; first | omega | exact Nat.le_refl _⟩, ⟨by repeat (first | (with_reducible first | exact HB.out | apply below_alloc | apply pw_below_drewN | apply below_drew1) | exact HB.out)⟩⟩
          · rw [if_neg c12] at H
            have c12b0 : decide (10 ≤ a0) = false := decide_eq_false c12
            clear c12
            (first | rw [c12b0] | (simp only [i64_w, i32_w]; rw [c12b0]) | skip)
            have H' := Aside0.mk H
            clear H
            go_wp2
            go_meet
            case rel => exact ⟨_, (false), (by first | rfl | (simp; done) | (simp [*]; done) | (simp [wrap64]; done) | (simp [isEmpty_bne]; done)), H', ⟨by have := HJ1.out; first | omega | exact Nat.le_refl _⟩, ⟨by repeat (first | (with_reducible first | exact HB.out | apply below_alloc | apply pw_below_drewN | apply below_drew1) | exact HB.out)⟩⟩
        case rest =>
          clear HC11
          try clear c1
          try clear c2
          try clear p2
          try clear q2
          try clear hx2
          try clear c3
          try clear c3b0
          try clear c4
          try clear p6
          try clear c7
          try clear c7b0
          try clear c8
          try clear c8b0
          try clear c12
          try clear c12b0
          try clear hx242_0
          try clear p2
          try clear p242
          try clear q242
          obtain ⟨kq, x15_10, rfl, HA, HJ10, HB⟩ := hcut
          cases kq with
          | zero => exact absurd HA.out (by simp [scholiastref02_Name.j1])
          | succ kj10 =>
            have H := HA.out
            clear HA
            simp only [scholiastref02_Name.j1] at H
            by_cases c13 : x15_10 = true
            · subst c13
              have H1 : ((scholiastref02_cut.f kj10 (⟨#[110, 97, 109, 101, 32, 105, 110, 116, 32, 114, 117, 110, 101, 32, 115, 116, 114, 105, 110, 103, 32, 114, 97, 119, 32, 59, 32, 97, 117, 116, 111]⟩ : ByteArray)).bind fun t243 => (if 0 ≤ (wrap64 (a0 - 10)) then (if (wrap64 (a0 - 10)) < (t243.length : Int) then (some (rdOf ByteArray.empty t243 (wrap64 (a0 - 10)))) else (none)) else (none))) = some r := by rw [if_pos rfl] at H; exact H
              clear H
              have H := H1
              clear H1
              replace H := Option.bind_eq_some_iff.mp H
              obtain ⟨t243, A140, H⟩ := H
              replace H : (if 0 ≤ (wrap64 (a0 - 10)) then (if (wrap64 (a0 - 10)) < (t243.length : Int) then (some (rdOf ByteArray.empty t243 (wrap64 (a0 - 10)))) else (none)) else (none)) = some r := H
              have A14 := Aside0.mk A140
              clear A140
              obtain ⟨ji15, hji15⟩ : ∃ j_ : Int, (wrap64 (a0 - 10)) = j_ := ⟨_, rfl⟩
              replace H : (if 0 ≤ (ji15) then (if (ji15) < (t243.length : Int) then (some (rdOf ByteArray.empty t243 (ji15))) else (none)) else (none)) = some r := by first | (rw [hji15] at H; exact H) | (simp only [hji15] at H ⊢; exact H)
              (try rw [hji15] at A14)
              have hji15w : (IntKind.i64.wrap (a0 - 10)) = ji15 := (i64_w _).trans hji15
              by_cases c16 : 0 ≤ (ji15)
              · rw [if_pos c16] at H
                have c16b0 : decide (0 ≤ (ji15)) = true := decide_eq_true c16
                clear c16
                by_cases c17 : (ji15) < (t243.length : Int)
                · rw [if_pos c17] at H
                  have c17b0 : decide ((ji15) < (t243.length : Int)) = true := decide_eq_true c17
                  clear c17
                  obtain rfl := Option.some.inj H
                  go_wp2_with (first | ((with_reducible refine gate_callee (f := 49) rfl ?_); refine goesL_ (some 22) rfl rfl Tryd.func49 (by kernel_rfl) rfl #[.string (⟨#[110, 97, 109, 101, 32, 105, 110, 116, 32, 114, 117, 110, 101, 32, 115, 116, 114, 105, 110, 103, 32, 114, 97, 119, 32, 59, 32, 97, 117, 116, 111]⟩ : ByteArray)] rfl (by (try simp only [List.map_toArray, List.map_cons, List.map_nil]); first | done | rfl | (simp only [List.length_drop, List.length_take]; rfl) | (rw [extract_all]; rfl)) ?_; (with_reducible refine (scholiastref02_cut.calls kj10 (⟨#[110, 97, 109, 101, 32, 105, 110, 116, 32, 114, 117, 110, 101, 32, 115, 116, 114, 105, 110, 103, 32, 114, 97, 119, 32, 59, 32, 97, 117, 116, 111]⟩ : ByteArray) t243 _ A14.out).mono ?_); rintro e w18 ⟨v244, rfl, ho0, hb⟩; refine ⟨_, rfl, ?_⟩; have n0_ := Aside0.mk (Kd.R_lower ho0 (below_size (by repeat (first | (with_reducible first | exact HB.out | apply below_alloc | apply pw_below_drewN | apply below_drew1) | exact HB.out)))); have n1_ := Aside0.mk (below_step (by repeat (first | (with_reducible first | exact HB.out | apply below_alloc | apply pw_below_drewN | apply below_drew1) | exact HB.out)) hb); clear HB; have HO245 := n0_; have HB := n1_; clear n0_ n1_; (try clear hb); (try clear hb2); (try clear hk); (try clear hi); (try clear ho0); obtain ⟨Ao19, co19, eo19⟩ := Kd.R_slice HO245.out; subst eo19; have p246 : 0 ≤ ((ji15) : Int) := of_decide_eq_true (by first | (with_reducible assumption) | assumption); have q246 : (ji15) < (t243.length : Int) := of_decide_eq_true (by first | (with_reducible assumption) | assumption); obtain ⟨ad246, e246, hx246_0⟩ := Kd.at_string (Kd.R_reads' HO245.out).2.2 (ji15) p246 q246; cases e246; replace p246 := eq_true p246; replace q246 := eq_true q246))
                  go_ret
                  exact ⟨by first | rfl | (simp [errW_none, errW_some] <;> rfl) | (simp only [← hji15]; first | rfl | (simp [errW_none, errW_some] <;> rfl)) | (simp [*, errW_none, errW_some] <;> rfl), by repeat (first | (with_reducible first | exact HB.out | apply below_alloc | apply pw_below_drewN | apply below_drew1) | exact HB.out)⟩
                · rw [if_neg c17] at H
                  exact absurd H (by simp)
              · rw [if_neg c16] at H
                exact absurd H (by simp)
            · replace c13 := Bool.eq_false_iff.mpr c13
              subst c13
              have H1 : (if a0 ≥ 20 then (scholiastref02_Name.j2 kj10 a0 (decide ((a0 : Int) ≤ 65))) else (scholiastref02_Name.j2 kj10 a0 false)) = some r := by rw [if_neg (show ¬ (false = true) by decide)] at H; exact H
              clear H
              have H := H1
              clear H1
              have HC20 := Aside0.mk H
              clear H
              go_upto_region 5 with (fail)
              go_cut [27] (fun v27 wc => ∃ (kq : Nat) (x27_19 : Bool), v27 = .bool x27_19 ∧ Aside0 (scholiastref02_Name.j2 kq a0 x27_19 = some r) ∧ Aside0 (kq ≤ kj10) ∧ Aside0 (Below w.heap.size w wc))
              case first =>
                have H := HC20.out
                clear HC20
                by_cases c21 : a0 ≥ 20
                · rw [if_pos c21] at H
                  have c21b0 : decide (20 ≤ a0) = true := decide_eq_true c21
                  clear c21
                  (first | rw [c21b0] | (simp only [i64_w, i32_w]; rw [c21b0]) | skip)
                  have H' := Aside0.mk H
                  clear H
                  go_wp2
                  go_meet
                  case rel => exact ⟨_, (decide ((a0 : Int) ≤ 65)), (by first | rfl | (simp; done) | (simp [*]; done) | (simp [wrap64]; done) | (simp [isEmpty_bne]; done)), H', ⟨by have := HJ1.out; have := HJ10.out; first | omega | exact Nat.le_refl _⟩, ⟨by repeat (first | (with_reducible first | exact HB.out | apply below_alloc | apply pw_below_drewN | apply below_drew1) | exact HB.out)⟩⟩
                · rw [if_neg c21] at H
                  have c21b0 : decide (20 ≤ a0) = false := decide_eq_false c21
                  clear c21
                  (first | rw [c21b0] | (simp only [i64_w, i32_w]; rw [c21b0]) | skip)
                  have H' := Aside0.mk H
                  clear H
                  go_wp2
                  go_meet
                  case rel => exact ⟨_, (false), (by first | rfl | (simp; done) | (simp [*]; done) | (simp [wrap64]; done) | (simp [isEmpty_bne]; done)), H', ⟨by have := HJ1.out; have := HJ10.out; first | omega | exact Nat.le_refl _⟩, ⟨by repeat (first | (with_reducible first | exact HB.out | apply below_alloc | apply pw_below_drewN | apply below_drew1) | exact HB.out)⟩⟩
              case rest =>
                clear HC20
                try clear c1
                try clear c2
                try clear p2
                try clear q2
                try clear hx2
                try clear c3
                try clear c3b0
                try clear c4
                try clear p6
                try clear c7
                try clear c7b0
                try clear c8
                try clear c8b0
                try clear c12
                try clear c12b0
                try clear c13
                try clear c16
                try clear c16b0
                try clear c17
                try clear c17b0
                try clear c21
                try clear c21b0
                try clear hx242_0
                try clear hx246_0
                try clear p2
                try clear p242
                try clear p246
                try clear p6
                try clear q2
                try clear q242
                try clear q246
                obtain ⟨kq, x27_19, rfl, HA, HJ19, HB⟩ := hcut
                cases kq with
                | zero => exact absurd HA.out (by simp [scholiastref02_Name.j2])
                | succ kj19 =>
                  have H := HA.out
                  clear HA
                  simp only [scholiastref02_Name.j2] at H
                  by_cases c22 : x27_19 = true
                  · subst c22
                    have H1 : ((scholiastref02_Signs.f kj19).bind fun t247 => (if 0 ≤ (wrap64 (a0 - 20)) then (if (wrap64 (a0 - 20)) < (t247.length : Int) then (some (rdOf ByteArray.empty t247 (wrap64 (a0 - 20)))) else (none)) else (none))) = some r := by rw [if_pos rfl] at H; exact H
                    clear H
                    have H := H1
                    clear H1
                    replace H := Option.bind_eq_some_iff.mp H
                    obtain ⟨t247, A230, H⟩ := H
                    replace H : (if 0 ≤ (wrap64 (a0 - 20)) then (if (wrap64 (a0 - 20)) < (t247.length : Int) then (some (rdOf ByteArray.empty t247 (wrap64 (a0 - 20)))) else (none)) else (none)) = some r := H
                    have A23 := Aside0.mk A230
                    clear A230
                    obtain ⟨ji24, hji24⟩ : ∃ j_ : Int, (wrap64 (a0 - 20)) = j_ := ⟨_, rfl⟩
                    replace H : (if 0 ≤ (ji24) then (if (ji24) < (t247.length : Int) then (some (rdOf ByteArray.empty t247 (ji24))) else (none)) else (none)) = some r := by first | (rw [hji24] at H; exact H) | (simp only [hji24] at H ⊢; exact H)
                    (try rw [hji24] at A23)
                    have hji24w : (IntKind.i64.wrap (a0 - 20)) = ji24 := (i64_w _).trans hji24
                    by_cases c25 : 0 ≤ (ji24)
                    · rw [if_pos c25] at H
                      have c25b0 : decide (0 ≤ (ji24)) = true := decide_eq_true c25
                      clear c25
                      by_cases c26 : (ji24) < (t247.length : Int)
                      · rw [if_pos c26] at H
                        have c26b0 : decide ((ji24) < (t247.length : Int)) = true := decide_eq_true c26
                        clear c26
                        obtain rfl := Option.some.inj H
                        go_wp2_with (first | ((with_reducible refine gate_callee (f := 33) rfl ?_); refine goesL_ (some 34) rfl rfl Tryd.func33 (by kernel_rfl) rfl #[] rfl (by (try simp only [List.map_toArray, List.map_cons, List.map_nil]); first | done | rfl | (simp only [List.length_drop, List.length_take]; rfl) | (rw [extract_all]; rfl)) ?_; (with_reducible refine (scholiastref02_Signs.calls kj19  t247 _ A23.out).mono ?_); rintro e w27 ⟨v248, rfl, ho0, hb⟩; refine ⟨_, rfl, ?_⟩; have n0_ := Aside0.mk (Kd.R_lower ho0 (below_size (by repeat (first | (with_reducible first | exact HB.out | apply below_alloc | apply pw_below_drewN | apply below_drew1) | exact HB.out)))); have n1_ := Aside0.mk (below_step (by repeat (first | (with_reducible first | exact HB.out | apply below_alloc | apply pw_below_drewN | apply below_drew1) | exact HB.out)) hb); clear HB; have HO249 := n0_; have HB := n1_; clear n0_ n1_; (try clear hb); (try clear hb2); (try clear hk); (try clear hi); (try clear ho0); obtain ⟨Ao28, co28, eo28⟩ := Kd.R_slice HO249.out; subst eo28; have p250 : 0 ≤ ((ji24) : Int) := of_decide_eq_true (by first | (with_reducible assumption) | assumption); have q250 : (ji24) < (t247.length : Int) := of_decide_eq_true (by first | (with_reducible assumption) | assumption); obtain ⟨ad250, e250, hx250_0⟩ := Kd.at_string (Kd.R_reads' HO249.out).2.2 (ji24) p250 q250; cases e250; replace p250 := eq_true p250; replace q250 := eq_true q250))
                        go_ret
                        exact ⟨by first | rfl | (simp [errW_none, errW_some] <;> rfl) | (simp only [← hji24]; first | rfl | (simp [errW_none, errW_some] <;> rfl)) | (simp [*, errW_none, errW_some] <;> rfl), by repeat (first | (with_reducible first | exact HB.out | apply below_alloc | apply pw_below_drewN | apply below_drew1) | exact HB.out)⟩
                      · rw [if_neg c26] at H
                        exact absurd H (by simp)
                    · rw [if_neg c25] at H
                      exact absurd H (by simp)
                  · replace c22 := Bool.eq_false_iff.mpr c22
                    subst c22
                    have H1 : (if a0 ≥ 70 then (if a0 ≤ 90 then ((scholiastref02_Keywords.f kj19).bind fun t251 => (if 0 ≤ (wrap64 (a0 - 70)) then (if (wrap64 (a0 - 70)) < (t251.length : Int) then (some (rdOf ByteArray.empty t251 (wrap64 (a0 - 70)))) else (none)) else (none))) else (some (⟨#[]⟩ : ByteArray))) else (some (⟨#[]⟩ : ByteArray))) = some r := by rw [if_neg (show ¬ (false = true) by decide)] at H; exact H
                    clear H
                    have H := H1
                    clear H1
                    by_cases c29 : a0 ≥ 70
                    · rw [if_pos c29] at H
                      have c29b0 : decide (70 ≤ a0) = true := decide_eq_true c29
                      clear c29
                      by_cases c30 : a0 ≤ 90
                      · rw [if_pos c30] at H
                        have c30b0 : decide (a0 ≤ 90) = true := decide_eq_true c30
                        clear c30
                        replace H := Option.bind_eq_some_iff.mp H
                        obtain ⟨t251, A310, H⟩ := H
                        replace H : (if 0 ≤ (wrap64 (a0 - 70)) then (if (wrap64 (a0 - 70)) < (t251.length : Int) then (some (rdOf ByteArray.empty t251 (wrap64 (a0 - 70)))) else (none)) else (none)) = some r := H
                        have A31 := Aside0.mk A310
                        clear A310
                        obtain ⟨ji32, hji32⟩ : ∃ j_ : Int, (wrap64 (a0 - 70)) = j_ := ⟨_, rfl⟩
                        replace H : (if 0 ≤ (ji32) then (if (ji32) < (t251.length : Int) then (some (rdOf ByteArray.empty t251 (ji32))) else (none)) else (none)) = some r := by first | (rw [hji32] at H; exact H) | (simp only [hji32] at H ⊢; exact H)
                        (try rw [hji32] at A31)
                        have hji32w : (IntKind.i64.wrap (a0 - 70)) = ji32 := (i64_w _).trans hji32
                        by_cases c33 : 0 ≤ (ji32)
                        · rw [if_pos c33] at H
                          have c33b0 : decide (0 ≤ (ji32)) = true := decide_eq_true c33
                          clear c33
                          by_cases c34 : (ji32) < (t251.length : Int)
                          · rw [if_pos c34] at H
                            have c34b0 : decide ((ji32) < (t251.length : Int)) = true := decide_eq_true c34
                            clear c34
                            obtain rfl := Option.some.inj H
                            go_wp2_with (first | ((with_reducible refine gate_callee (f := 35) rfl ?_); refine goesL_ (some 46) rfl rfl Tryd.func35 (by kernel_rfl) rfl #[] rfl (by (try simp only [List.map_toArray, List.map_cons, List.map_nil]); first | done | rfl | (simp only [List.length_drop, List.length_take]; rfl) | (rw [extract_all]; rfl)) ?_; (with_reducible refine (scholiastref02_Keywords.calls kj19  t251 _ A31.out).mono ?_); rintro e w35 ⟨v252, rfl, ho0, hb⟩; refine ⟨_, rfl, ?_⟩; have n0_ := Aside0.mk (Kd.R_lower ho0 (below_size (by repeat (first | (with_reducible first | exact HB.out | apply below_alloc | apply pw_below_drewN | apply below_drew1) | exact HB.out)))); have n1_ := Aside0.mk (below_step (by repeat (first | (with_reducible first | exact HB.out | apply below_alloc | apply pw_below_drewN | apply below_drew1) | exact HB.out)) hb); clear HB; have HO253 := n0_; have HB := n1_; clear n0_ n1_; (try clear hb); (try clear hb2); (try clear hk); (try clear hi); (try clear ho0); obtain ⟨Ao36, co36, eo36⟩ := Kd.R_slice HO253.out; subst eo36; have p254 : 0 ≤ ((ji32) : Int) := of_decide_eq_true (by first | (with_reducible assumption) | assumption); have q254 : (ji32) < (t251.length : Int) := of_decide_eq_true (by first | (with_reducible assumption) | assumption); obtain ⟨ad254, e254, hx254_0⟩ := Kd.at_string (Kd.R_reads' HO253.out).2.2 (ji32) p254 q254; cases e254; replace p254 := eq_true p254; replace q254 := eq_true q254))
                            go_ret
                            exact ⟨by first | rfl | (simp [errW_none, errW_some] <;> rfl) | (simp only [← hji32]; first | rfl | (simp [errW_none, errW_some] <;> rfl)) | (simp [*, errW_none, errW_some] <;> rfl), by repeat (first | (with_reducible first | exact HB.out | apply below_alloc | apply pw_below_drewN | apply below_drew1) | exact HB.out)⟩
                          · rw [if_neg c34] at H
                            exact absurd H (by simp)
                        · rw [if_neg c33] at H
                          exact absurd H (by simp)
                      · rw [if_neg c30] at H
                        have c30b0 : decide (a0 ≤ 90) = false := decide_eq_false c30
                        clear c30
                        obtain rfl := Option.some.inj H
                        go_wp2
                        go_ret
                        exact ⟨by first | rfl | (simp [errW_none, errW_some] <;> rfl) | (simp [*, errW_none, errW_some] <;> rfl), by repeat (first | (with_reducible first | exact HB.out | apply below_alloc | apply pw_below_drewN | apply below_drew1) | exact HB.out)⟩
                    · rw [if_neg c29] at H
                      have c29b0 : decide (70 ≤ a0) = false := decide_eq_false c29
                      clear c29
                      obtain rfl := Option.some.inj H
                      go_wp2
                      go_ret
                      exact ⟨by first | rfl | (simp [errW_none, errW_some] <;> rfl) | (simp [*, errW_none, errW_some] <;> rfl), by repeat (first | (with_reducible first | exact HB.out | apply below_alloc | apply pw_below_drewN | apply below_drew1) | exact HB.out)⟩

end Go.Proofs.YtkpceagbjodbbaaDoor.PA
