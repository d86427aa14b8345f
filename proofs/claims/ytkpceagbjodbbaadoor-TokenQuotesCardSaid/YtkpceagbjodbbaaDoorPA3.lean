-- Printed by a program of this session (wip/xprint.py) for this claim: Lean checks it.
import Derived.Test.YtkpceagbjodbbaaDoorPA0
import Derived.Test.YtkpceagbjodbbaaDoorPA1
import Derived.Test.YtkpceagbjodbbaaDoorPA2
namespace Go.Proofs.YtkpceagbjodbbaaDoor.PA
open Go.RowKit Go.Proofs.YtkpceagbjodbbaaDoor.Ext Go.Proofs.YtkpceagbjodbbaaDoorW.PrintWords Go.Proofs.YtkpceagbjodbbaaDoorW.PrintLast Go.Proofs.YtkpceagbjodbbaaDoorW.PrintMore
attribute [local go_sem] max2_int min2_int max_two min_two max_three min_three max_four min_four   -- for this text's walks alone
set_option linter.unusedVariables false
set_option linter.unusedSimpArgs false

/-! ### token_escape: function 44 -/
mutual
def token_escape.j1 : Nat → ByteArray → Int → Int → Int → Option (Int × ByteArray × Int × Bool)
  | 0, _, _, _, _ => none
  | k + 1, x0, x9, x10, x11 => if 0 ≤ x11 then (if x11 ≤ (x0.size : Int) then ((token_value.f k (x0.extract (x11 : Int).toNat x0.size) x9 x10).bind fun bt107 => (if bt107.2 = true then (if x9 < 4 then (if bt107.1 > 255 then (token_escape.j2 k x9 x11 bt107.1 (decide (bt107.1 > 255))) else (if x9 ≥ 4 then ((utf8_ValidRune.f k (wrap32 (mn bt107.1 1073741824))).bind fun t109 => (token_escape.j2 k x9 x11 bt107.1 (!t109))) else (token_escape.j2 k x9 x11 bt107.1 false))) else (if x9 ≥ 4 then ((utf8_ValidRune.f k (wrap32 (mn bt107.1 1073741824))).bind fun t110 => (token_escape.j2 k x9 x11 bt107.1 (!t110))) else (token_escape.j2 k x9 x11 bt107.1 false))) else (token_escape.j2 k x9 x11 bt107.1 (!bt107.2)))) else (none)) else (none)
def token_escape.j2 : Nat → Int → Int → Int → Bool → Option (Int × ByteArray × Int × Bool)
  | 0, _, _, _, _ => none
  | k + 1, x9, x11, x12, x65 => if x65 = true then (some (0, (⟨#[]⟩ : ByteArray), 0, false)) else (if x9 < 4 then (some (x12, strOfNums (([(x12) % 256] : List Int)), wrap64 (x9 + x11), true)) else (some (x12, Utf8.encode (wrap32 (x12)), wrap64 (x9 + x11), true)))
def token_escape.j0 : Nat → ByteArray → Int → Int → Bool → Option (Int × ByteArray × Int × Bool)
  | 0, _, _, _, _ => none
  | k + 1, x0, x10, x11, x29 => if x29 = true then (if 0 < (x0.size : Int) then (if 0 ≤ 1 then (if 1 ≤ (x0.size : Int) then (some (wrap64 (bt x0 0), x0.extract 0 1, 1, true)) else (none)) else (none)) else (none)) else (if 0 < (x0.size : Int) then (if (bt x0 0) = 120 then (token_escape.j1 k x0 2 x10 x11) else (if (bt x0 0) = 117 then (token_escape.j1 k x0 4 x10 x11) else (if (bt x0 0) = 85 then (token_escape.j1 k x0 8 x10 x11) else (token_escape.j1 k x0 3 8 0)))) else (none))
end
def token_escape.f (k : Nat) (a0 : ByteArray) (a1 : Int) : Option (Int × ByteArray × Int × Bool) := if a0.toList = ([] : List UInt8) then (some (0, (⟨#[]⟩ : ByteArray), 0, false)) else (if 0 < (a0.size : Int) then ((strings_IndexByte.f (⟨#[97, 98, 116, 110, 118, 102, 114]⟩ : ByteArray) (bt a0 0)).bind fun t103 => (if t103 ≥ 0 then (some (wrap64 (7 + t103), strOfNums (([(wrap64 (7 + t103)) % 256] : List Int)), 1, true)) else (if (bt a0 0) = 92 then (token_escape.j0 k a0 16 1 true) else (token_escape.j0 k a0 16 1 ((bt a0 0) == a1))))) else (none))
theorem token_escape.mono_l : ∀ k, (∀ y0 y1 y2 y3, LeO (token_escape.j1 k y0 y1 y2 y3) (token_escape.j1 (k + 1) y0 y1 y2 y3)) ∧ (∀ y0 y1 y2 y3, LeO (token_escape.j2 k y0 y1 y2 y3) (token_escape.j2 (k + 1) y0 y1 y2 y3)) ∧ (∀ y0 y1 y2 y3, LeO (token_escape.j0 k y0 y1 y2 y3) (token_escape.j0 (k + 1) y0 y1 y2 y3))
  | 0 => ⟨fun _ _ _ _ r h => by simp [token_escape.j1] at h, fun _ _ _ _ r h => by simp [token_escape.j2] at h, fun _ _ _ _ r h => by simp [token_escape.j0] at h⟩
  | k + 1 => by
    obtain ⟨ih0, ih1, ih2⟩ := token_escape.mono_l k
    refine ⟨?_, ?_, ?_⟩
    · intro y0 y1 y2 y3
      unfold token_escape.j1
      repeat' first
      | (with_reducible exact ih0 _ _ _ _)
      | (with_reducible exact ih1 _ _ _ _)
      | (with_reducible exact ih2 _ _ _ _)
      | (with_reducible exact token_value.mono _ _ _ _)
      | (with_reducible exact utf8_ValidRune.mono _ _)
      | (with_reducible exact LeO.refl _)
      | (with_reducible exact LeO.none _)
      | (with_reducible refine LeO.ite ?_ ?_)
      | (with_reducible refine LeO.bind ?_ (fun _ => ?_))
      | exact ih0 _ _ _ _
      | exact ih1 _ _ _ _
      | exact ih2 _ _ _ _
      | exact token_value.mono _ _ _ _
      | exact utf8_ValidRune.mono _ _
      | exact LeO.none _
      | refine LeO.ite ?_ ?_
      | refine LeO.bind ?_ (fun _ => ?_)
    · intro y0 y1 y2 y3
      unfold token_escape.j2
      repeat' first
      | (with_reducible exact ih0 _ _ _ _)
      | (with_reducible exact ih1 _ _ _ _)
      | (with_reducible exact ih2 _ _ _ _)
      | (with_reducible exact token_value.mono _ _ _ _)
      | (with_reducible exact utf8_ValidRune.mono _ _)
      | (with_reducible exact LeO.refl _)
      | (with_reducible exact LeO.none _)
      | (with_reducible refine LeO.ite ?_ ?_)
      | (with_reducible refine LeO.bind ?_ (fun _ => ?_))
      | exact ih0 _ _ _ _
      | exact ih1 _ _ _ _
      | exact ih2 _ _ _ _
      | exact token_value.mono _ _ _ _
      | exact utf8_ValidRune.mono _ _
      | exact LeO.none _
      | refine LeO.ite ?_ ?_
      | refine LeO.bind ?_ (fun _ => ?_)
    · intro y0 y1 y2 y3
      unfold token_escape.j0
      repeat' first
      | (with_reducible exact ih0 _ _ _ _)
      | (with_reducible exact ih1 _ _ _ _)
      | (with_reducible exact ih2 _ _ _ _)
      | (with_reducible exact token_value.mono _ _ _ _)
      | (with_reducible exact utf8_ValidRune.mono _ _)
      | (with_reducible exact LeO.refl _)
      | (with_reducible exact LeO.none _)
      | (with_reducible refine LeO.ite ?_ ?_)
      | (with_reducible refine LeO.bind ?_ (fun _ => ?_))
      | exact ih0 _ _ _ _
      | exact ih1 _ _ _ _
      | exact ih2 _ _ _ _
      | exact token_value.mono _ _ _ _
      | exact utf8_ValidRune.mono _ _
      | exact LeO.none _
      | refine LeO.ite ?_ ?_
      | refine LeO.bind ?_ (fun _ => ?_)
theorem token_escape.mono : ∀ a0 a1 k, LeO (token_escape.f k a0 a1) (token_escape.f (k + 1) a0 a1) := by
  intro a0 a1 k
  obtain ⟨ih0, ih1, ih2⟩ := token_escape.mono_l k
  unfold token_escape.f
  repeat' first
      | (with_reducible exact ih0 _ _ _ _)
      | (with_reducible exact ih1 _ _ _ _)
      | (with_reducible exact ih2 _ _ _ _)
      | (with_reducible exact token_value.mono _ _ _ _)
      | (with_reducible exact utf8_ValidRune.mono _ _)
      | (with_reducible exact LeO.refl _)
      | (with_reducible exact LeO.none _)
      | (with_reducible refine LeO.ite ?_ ?_)
      | (with_reducible refine LeO.bind ?_ (fun _ => ?_))
      | exact ih0 _ _ _ _
      | exact ih1 _ _ _ _
      | exact ih2 _ _ _ _
      | exact token_value.mono _ _ _ _
      | exact utf8_ValidRune.mono _ _
      | exact LeO.none _
      | refine LeO.ite ?_ ?_
      | refine LeO.bind ?_ (fun _ => ?_)
def token_escape.T7 : Bool × List (List Nat × List Nat) := (true, [([], []), ([0], [0]), ([], []), ([2], [2]), ([3], [3]), ([4], [4]), ([5], [5]), ([1, 0, 1], [1]), ([6, 7, 0, 1, 2, 3, 4, 5, 6, 7], [6]), ([8, 0, 1, 2, 3, 4, 5, 6, 7, 8], []), ([9, 0, 1, 2, 3, 4, 5, 6, 7, 8, 9], [])])
def token_escape.B7 : List Nat := [0, 1, 0, 4, 12, 28, 60, 3, 255, 511, 1023]
theorem token_escape.tab7 : rtab .any (opsOf Tryd.f44 7) = token_escape.T7 := by kernel_rfl
theorem token_escape.bits7 : waitsOk token_escape.T7.2 token_escape.B7 = true := by kernel_rfl
def token_escape.T9 : Bool × List (List Nat × List Nat) := (true, [([], []), ([0], [0]), ([1], [1]), ([], []), ([3], [3]), ([2, 0, 1, 2], [2]), ([4, 5, 0, 1, 2, 3, 4, 5], [4]), ([6, 0, 1, 2, 3, 4, 5, 6], []), ([7, 0, 1, 2, 3, 4, 5, 6, 7], [])])
def token_escape.B9 : List Nat := [0, 1, 3, 0, 8, 7, 63, 127, 255]
theorem token_escape.tab9 : rtab .any (opsOf Tryd.f44 9) = token_escape.T9 := by kernel_rfl
theorem token_escape.bits9 : waitsOk token_escape.T9.2 token_escape.B9 = true := by kernel_rfl
def token_escape.T22 : Bool × List (List Nat × List Nat) := (true, [([], []), ([], []), ([1], [1]), ([2], [2]), ([3], [3]), ([], []), ([], []), ([5, 6], [5, 6]), ([0, 0], [0]), ([4, 8, 0, 1, 2, 3, 4, 8], [4]), ([7, 9, 0, 1, 2, 3, 4, 5, 6, 7, 8, 9], [7]), ([10, 0, 1, 2, 3, 4, 5, 6, 7, 8, 9, 10], [])])
def token_escape.B22 : List Nat := [0, 0, 2, 6, 14, 0, 0, 96, 1, 287, 1023, 2047]
theorem token_escape.tab22 : rtab .any (opsOf Tryd.f44 22) = token_escape.T22 := by kernel_rfl
theorem token_escape.bits22 : waitsOk token_escape.T22.2 token_escape.B22 = true := by kernel_rfl
set_option maxHeartbeats 8000000 in
set_option maxRecDepth 100000 in
theorem token_escape.calls (k : Nat) (a0 : ByteArray) (a1 : Int) (r1 : Int) (r2 : ByteArray) (r3 : Int) (r4 : Bool) (w : World) (h : token_escape.f k a0 a1 = some (r1, r2, r3, r4)) :
    Calls Tryd.prog 44 #[.string a0, .int .u8 a1] w fun e w' => e = .returned (.tuple #[.int .i64 r1, .string r2, .int .i64 r3, .bool r4]) ∧ Below w.heap.size w w' := by
  have HB := Aside0.mk (Below.refl w.heap.size w)
  have H : (if a0.toList = ([] : List UInt8) then (some (0, (⟨#[]⟩ : ByteArray), 0, false)) else (if 0 < (a0.size : Int) then ((strings_IndexByte.f (⟨#[97, 98, 116, 110, 118, 102, 114]⟩ : ByteArray) (bt a0 0)).bind fun t103 => (if t103 ≥ 0 then (some (wrap64 (7 + t103), strOfNums (([(wrap64 (7 + t103)) % 256] : List Int)), 1, true)) else (if (bt a0 0) = 92 then (token_escape.j0 k a0 16 1 true) else (token_escape.j0 k a0 16 1 ((bt a0 0) == a1))))) else (none))) = some (r1, r2, r3, r4) := h
  clear h
  by_cases c3 : a0.toList = ([] : List UInt8)
  · rw [if_pos c3] at H
    have c3b0 : (a0.toList == ([] : List UInt8)) = true := beq_iff_eq.mpr c3
    have c3b1 : (a0.toList != ([] : List UInt8)) = false := bne_eq_false_iff_eq.mpr c3
    (try (have c3b2 : a0.toList.isEmpty = true := by simpa using c3))
    (try (have c3b3 : ¬ ((!a0.toList.isEmpty) = true) := by simpa using c3))
    clear c3
    simp only [Option.some.injEq, Prod.mk.injEq] at H
    obtain ⟨rfl, rfl, rfl, rfl⟩ := H
    go_enter Tryd.func44, Tryd.ntmps44
    go_wp2
    refine bodyPost_ret (results_list (rs := [.tmp 4, .tmp 5, .tmp 6, .tmp 7]) rfl (by simp) (.tmp (.tmp (.tmp (.tmp .nil))))) rfl ?_
    exact ⟨by first | rfl | (simp [errW_none, errW_some] <;> rfl) | (simp [*, errW_none, errW_some] <;> rfl), by repeat (first | (with_reducible first | exact HB.out | apply below_alloc | apply pw_below_drewN | apply below_drew1) | exact HB.out)⟩
  · rw [if_neg c3] at H
    have c3b0 : (a0.toList == ([] : List UInt8)) = false := beq_eq_false_iff_ne.mpr c3
    have c3b1 : (a0.toList != ([] : List UInt8)) = true := bne_iff_ne.mpr c3
    (try (have c3b2 : a0.toList.isEmpty = false := by simpa using c3))
    (try (have c3b3 : ¬ ((!a0.toList.isEmpty) = false) := by simpa using c3))
    by_cases c4 : 0 < (a0.size : Int)
    · rw [if_pos c4] at H
      have c4b0 : decide (0 < (a0.size : Int)) = true := decide_eq_true c4
      have c4b1 : decide (0 < a0.size) = true := decide_eq_true (by omega)
      clear c4
      replace H := Option.bind_eq_some_iff.mp H
      obtain ⟨t103, A60, H⟩ := H
      replace H : (if t103 ≥ 0 then (some (wrap64 (7 + t103), strOfNums (([(wrap64 (7 + t103)) % 256] : List Int)), 1, true)) else (if (bt a0 0) = 92 then (token_escape.j0 k a0 16 1 true) else (token_escape.j0 k a0 16 1 ((bt a0 0) == a1)))) = some (r1, r2, r3, r4) := H
      have A6 := Aside0.mk A60
      clear A60
      have HC7 := Aside0.mk H
      clear H
      have p5 : 0 ≤ (0 : Int) := (by omega)
      have q5 : 0 < a0.size := (by have : (0 : Int) < (a0.size : Int) := of_decide_eq_true (by first | (with_reducible assumption) | assumption); omega)
      have hx5 : ∀ h : 0 < a0.size, ((a0[0]'h).toNat : Int) = bt a0 0 := bt_at a0 0
      clear p5
      have qi5 : (0 < (a0.size : Int)) = True := eq_true (of_decide_eq_true (by first | (with_reducible assumption) | assumption))
      replace q5 := eq_true q5
      go_enter Tryd.func44, Tryd.ntmps44
      go_upto_block 0 with (first | ((with_reducible refine gate_callee (f := 41) rfl ?_); refine goesL_ (some 18) rfl rfl Tryd.func41 (by kernel_rfl) rfl #[.string (⟨#[97, 98, 116, 110, 118, 102, 114]⟩ : ByteArray), .int .u8 (bt a0 0)] rfl (by (try simp only [List.map_toArray, List.map_cons, List.map_nil]); first | done | rfl | (simp only [List.length_drop, List.length_take]; rfl) | (rw [extract_all]; rfl)) ?_; (with_reducible refine (strings_IndexByte.calls (⟨#[97, 98, 116, 110, 118, 102, 114]⟩ : ByteArray) (bt a0 0) t103 _ A6.out).mono ?_); rintro e w8 ⟨rfl, hb⟩; refine ⟨_, rfl, ?_⟩; have n0_ := Aside0.mk (below_step (by repeat (first | (with_reducible first | exact HB.out | apply below_alloc | apply pw_below_drewN | apply below_drew1) | exact HB.out)) hb); clear HB; have HB := n0_; clear n0_; (try clear hb); (try clear hb2); (try clear hk); (try clear hi)))
      (try simp only [Act.put, List.setIfInBounds_toArray, List.set_cons_zero, List.set_cons_succ])
      go_cut [9, 10, 11] (fun v9 v10 v11 wc => ∃ (kq : Nat) (x9_6 : Int) (x10_6 : Int) (x11_6 : Int), v9 = .int .i64 x9_6 ∧ v10 = .int .i64 x10_6 ∧ v11 = .int .i64 x11_6 ∧ Aside0 (token_escape.j1 kq a0 x9_6 x10_6 x11_6 = some (r1, r2, r3, r4)) ∧ Aside0 (kq ≤ k) ∧ Aside0 (Below w.heap.size w wc))
      case first =>
        have H := HC7.out
        clear HC7
        by_cases c9 : t103 ≥ 0
        · rw [if_pos c9] at H
          have c9b0 : decide (0 ≤ t103) = true := decide_eq_true c9
          clear c9
          (first | rw [c9b0] | (simp only [i64_w, i32_w]; rw [c9b0]) | skip)
          obtain ⟨y104, hy104⟩ : ∃ y_ : List Int, y_ = (([(wrap64 (7 + t103)) % 256] : List Int)) := ⟨_, rfl⟩
          replace H : (some (wrap64 (7 + t103), strOfNums y104, 1, true)) = some (r1, r2, r3, r4) := by first | (rw [hy104]; with_reducible exact H) | (have H2_ := (Option.bind_some _ _).symm.trans H; rw [hy104]; with_reducible exact H2_) | (have H2_ := (Option.bind_some _ _).symm.trans H; with_reducible exact H2_) | with_reducible exact H | (rw [hy104]; exact H) | exact H
          have Ny104 := Aside0.mk hy104
          clear hy104
          simp only [Option.some.injEq, Prod.mk.injEq] at H
          obtain ⟨rfl, rfl, rfl, rfl⟩ := H
          try go_wp2
          have n0_ := Aside0.mk (below_drew1 HB.out)
          clear HB
          have HB := n0_
          clear n0_
          refine start_ (n := 11) (S := fun w' => True) (ds := []) #[false, false, false, false, false, false, false, false, false, false, false] (by kernel_rfl) rfl rfl trivial (fun hHeld => ?_); refine with_tabW token_escape.tab7 token_escape.bits7 (fun HT_ HW_ => ?_)
          generalize w8.drew = w10 at HB hHeld ⊢
          refine pure_ (i := 0) (N := some 22) (v := ?_) (a' := ?_) #[true, false, false, false, false, false, false, false, false, false, false] rfl rfl (any_of HT_.out (by kernel_rfl)) (fun _ _ _ h => h) (Or.inl ⟨by rfl, ?_⟩) ?_ ?_
          rotate_left
          · intro w'
            go_simp
            with_reducible rfl
          rotate_left
          · simp only [Act.put, List.setIfInBounds_toArray, List.set_cons_zero, List.set_cons_succ, i64_w, i32_w]
            rfl
          refine pure_ (i := 1) (N := some 23) (v := ?_) (a' := ?_) #[true, true, false, false, false, false, false, false, false, false, false] rfl rfl (any_of HT_.out (by kernel_rfl)) (fun _ _ _ h => h) (Or.inl ⟨by rfl, ?_⟩) ?_ ?_
          rotate_left
          · intro w'
            go_simp
            with_reducible rfl
          rotate_left
          · simp only [Act.put, List.setIfInBounds_toArray, List.set_cons_zero, List.set_cons_succ, i64_w, i32_w]
            rfl
          refine pure_ (i := 2) (N := some 24) (v := ?_) (a' := ?_) #[true, true, true, false, false, false, false, false, false, false, false] rfl rfl (any_of HT_.out (by kernel_rfl)) (fun _ _ _ h => h) (Or.inl ⟨by rfl, ?_⟩) ?_ ?_
          rotate_left
          · intro w'
            go_simp
            with_reducible rfl
          rotate_left
          · simp only [Act.put, List.setIfInBounds_toArray, List.set_cons_zero, List.set_cons_succ, i64_w, i32_w]
            rfl
          refine pure_ (i := 3) (N := some 25) (v := ?_) (a' := ?_) #[true, true, true, true, false, false, false, false, false, false, false] rfl rfl (any_of HT_.out (by kernel_rfl)) (fun _ _ _ h => h) (Or.inl ⟨by rfl, ?_⟩) ?_ ?_
          rotate_left
          · intro w'
            go_simp
            with_reducible rfl
          rotate_left
          · simp only [Act.put, List.setIfInBounds_toArray, List.set_cons_zero, List.set_cons_succ, i64_w, i32_w]
            rfl
          refine pure_ (i := 4) (N := some 26) (v := ?_) (a' := ?_) #[true, true, true, true, true, false, false, false, false, false, false] rfl rfl (any_of HT_.out (by kernel_rfl)) (fun _ _ _ h => h) (Or.inl ⟨by rfl, ?_⟩) ?_ ?_
          rotate_left
          · intro w'
            go_simp
            with_reducible rfl
          rotate_left
          · simp only [Act.put, List.setIfInBounds_toArray, List.set_cons_zero, List.set_cons_succ, i64_w, i32_w]
            rfl
          refine pure_ (i := 7) (N := some 4) (v := ?_) (a' := ?_) #[true, true, true, true, true, false, false, true, false, false, false] rfl rfl (any_of HT_.out (by kernel_rfl)) (fun _ _ _ h => h) (Or.inl ⟨by rfl, ?_⟩) ?_ ?_
          rotate_left
          · intro w'
            go_simp
            with_reducible rfl
          rotate_left
          · simp only [Act.put, List.setIfInBounds_toArray, List.set_cons_zero, List.set_cons_succ, i64_w, i32_w]
            rfl
          refine one_ (i := 5) (N := some 27) #[true, true, true, true, true, true, false, true, false, false, false] rfl rfl (one_of HT_.out (by kernel_rfl)) (by decide) (fun K hK => ?_)
          refine Kd.R_lit_step (Kd.int .u8) _ 5 ?hg (N := 27) ?hd (xs := ([(wrap64 (7 + t103)) % 256] : List Int)) (inner := [.int .u8 ((wrap64 (7 + t103)) % 256)]) (ok := fun _ => True) (okp := fun _ => True) ?hr ?hp (fun _ hk => hk) trivial (Below.refl _ _) (Nat.le_refl _) (by simp) ?_; (case hd => rfl); (case hg => rfl); (case hr => first | (go_simp; done) | (go_simp; rfl)); (case hp => exact (Reps.one (show Kd.M (Kd.int .u8) _ _ _ ((wrap64 (7 + t103)) % 256) [.int .u8 ((wrap64 (7 + t103)) % 256)] from rfl) (Reps.none _ _)))
          intro v105 w11 ho12 hb hg_ hnew_
          clear hg_ hnew_
          (first | rw [← Ny104.out] at ho12 | (simp only [Int.reduceToNat] at ho12; rw [← Ny104.out] at ho12))
          have n0_ := Aside0.mk (Kd.R_lower ho12 (below_size (by repeat (first | (with_reducible first | exact HB.out | apply below_alloc | apply pw_below_drewN | apply below_drew1) | exact HB.out))))
          have n1_ := Aside0.mk (below_step (by repeat (first | (with_reducible first | exact HB.out | apply below_alloc | apply pw_below_drewN | apply below_drew1) | exact HB.out)) hb)
          clear HB
          have HO106 := n0_
          have HB := n1_
          clear n0_ n1_
          clear hb ho12
          refine hK.out _ _ trivial (fun hHeld => ?_)
          clear hK K
          refine norm_ (a' := ?_) ?_ ?_
          rotate_left
          · show Act.put _ (some 27) _ = _
            simp only [Act.put, List.setIfInBounds_toArray, List.set_cons_zero, List.set_cons_succ, i64_w, i32_w]
            rfl
          refine one_ (i := 6) (N := some 28) #[true, true, true, true, true, true, true, true, false, false, false] rfl rfl (one_of HT_.out (by kernel_rfl)) (by decide) (fun K hK => ?_)
          have hcv13 := own_string (P := Tryd.prog) Tryd.underlying34 Tryd.underlying5 Tryd.underlying9 (Kd.own_of_R HO106.out)
          refine value_ (w1 := ?_) (v := ?_) (by rfl) rfl ?_ ?_
          rotate_left 2
          · go_simp
            constructor
            · rfl
            · rfl
          clear hcv13
          refine hK.out _ _ trivial (fun hHeld => ?_)
          clear hK K
          refine norm_ (a' := ?_) ?_ ?_
          rotate_left
          · show Act.put _ (some 28) _ = _
            simp only [Act.put, List.setIfInBounds_toArray, List.set_cons_zero, List.set_cons_succ, i64_w, i32_w]
            rfl
          refine pure_ (i := 8) (N := some 5) (v := ?_) (a' := ?_) #[true, true, true, true, true, true, true, true, true, false, false] rfl rfl (any_of HT_.out (by kernel_rfl)) (fun _ _ _ h => h) (Or.inl ⟨by rfl, ?_⟩) ?_ ?_
          rotate_left
          · intro w'
            go_simp
            with_reducible rfl
          rotate_left
          · simp only [Act.put, List.setIfInBounds_toArray, List.set_cons_zero, List.set_cons_succ, i64_w, i32_w]
            rfl
          refine pure_ (i := 9) (N := some 6) (v := ?_) (a' := ?_) #[true, true, true, true, true, true, true, true, true, true, false] rfl rfl (any_of HT_.out (by kernel_rfl)) (fun _ _ _ h => h) (Or.inl ⟨by rfl, ?_⟩) ?_ ?_
          rotate_left
          · intro w'
            go_simp
            with_reducible rfl
          rotate_left
          · simp only [Act.put, List.setIfInBounds_toArray, List.set_cons_zero, List.set_cons_succ, i64_w, i32_w]
            rfl
          refine pure_ (i := 10) (N := some 7) (v := ?_) (a' := ?_) #[true, true, true, true, true, true, true, true, true, true, true] rfl rfl (any_of HT_.out (by kernel_rfl)) (fun _ _ _ h => h) (Or.inl ⟨by rfl, ?_⟩) ?_ ?_
          rotate_left
          · intro w'
            go_simp
            with_reducible rfl
          rotate_left
          · simp only [Act.put, List.setIfInBounds_toArray, List.set_cons_zero, List.set_cons_succ, i64_w, i32_w]
            rfl
          refine done_ (done_of HT_.out (by kernel_rfl)) ?_
          try go_wp2
          refine bodyPost_ret (results_list (rs := [.tmp 4, .tmp 5, .tmp 6, .tmp 7]) rfl (by simp) (.tmp (.tmp (.tmp (.tmp .nil))))) rfl ?_
          exact ⟨by first | rfl | (simp [errW_none, errW_some] <;> rfl) | (simp [*, errW_none, errW_some] <;> rfl), by repeat (first | (with_reducible first | exact HB.out | apply below_alloc | apply pw_below_drewN | apply below_drew1) | exact HB.out)⟩
        · rw [if_neg c9] at H
          have c9b0 : decide (0 ≤ t103) = false := decide_eq_false c9
          clear c9
          (first | rw [c9b0] | (simp only [i64_w, i32_w]; rw [c9b0]) | skip)
          have HC14 := Aside0.mk H
          clear H
          go_upto_region 8 with (fail)
          go_cut [29] (fun v29 wc => ∃ (kq : Nat) (x29_13 : Bool), v29 = .bool x29_13 ∧ Aside0 (token_escape.j0 kq a0 16 1 x29_13 = some (r1, r2, r3, r4)) ∧ Aside0 (kq ≤ k) ∧ Aside0 (Below w.heap.size w wc))
          case first =>
            have H := HC14.out
            clear HC14
            by_cases c16 : (bt a0 0) = 92
            · rw [if_pos c16] at H
              have c16b0 : ((bt a0 0) == 92) = true := beq_iff_eq.mpr c16
              have c16b1 : ((bt a0 0) != 92) = false := bne_eq_false_iff_eq.mpr c16
              clear c16
              (first | rw [c16b0] | (simp only [i64_w, i32_w]; rw [c16b0]) | skip)
              have H' := Aside0.mk H
              clear H
              have p15 : 0 ≤ (0 : Int) := (by omega)
              have q15 : 0 < a0.size := (by have : (0 : Int) < (a0.size : Int) := of_decide_eq_true (by first | (with_reducible assumption) | assumption); omega)
              have hx15 : ∀ h : 0 < a0.size, ((a0[0]'h).toNat : Int) = bt a0 0 := bt_at a0 0
              clear p15
              have qi15 : (0 < (a0.size : Int)) = True := eq_true (of_decide_eq_true (by first | (with_reducible assumption) | assumption))
              replace q15 := eq_true q15
              go_wp2
              go_meet
              case rel => exact ⟨_, (true), (by first | rfl | (simp; done) | (simp [*]; done) | (simp [wrap64]; done) | (simp [isEmpty_bne]; done)), H', ⟨by first | omega | exact Nat.le_refl _⟩, ⟨by repeat (first | (with_reducible first | exact HB.out | apply below_alloc | apply pw_below_drewN | apply below_drew1) | exact HB.out)⟩⟩
            · rw [if_neg c16] at H
              have c16b0 : ((bt a0 0) == 92) = false := beq_eq_false_iff_ne.mpr c16
              have c16b1 : ((bt a0 0) != 92) = true := bne_iff_ne.mpr c16
              (first | rw [c16b0] | (simp only [i64_w, i32_w]; rw [c16b0]) | skip)
              have H' := Aside0.mk H
              clear H
              have p15 : 0 ≤ (0 : Int) := (by omega)
              have q15 : 0 < a0.size := (by have : (0 : Int) < (a0.size : Int) := of_decide_eq_true (by first | (with_reducible assumption) | assumption); omega)
              have hx15 : ∀ h : 0 < a0.size, ((a0[0]'h).toNat : Int) = bt a0 0 := bt_at a0 0
              clear p15
              have qi15 : (0 < (a0.size : Int)) = True := eq_true (of_decide_eq_true (by first | (with_reducible assumption) | assumption))
              replace q15 := eq_true q15
              have p17 : 0 ≤ (0 : Int) := (by omega)
              have q17 : 0 < a0.size := (by have : (0 : Int) < (a0.size : Int) := of_decide_eq_true (by first | (with_reducible assumption) | assumption); omega)
              have hx17 : ∀ h : 0 < a0.size, ((a0[0]'h).toNat : Int) = bt a0 0 := bt_at a0 0
              clear p17
              have qi17 : (0 < (a0.size : Int)) = True := eq_true (of_decide_eq_true (by first | (with_reducible assumption) | assumption))
              replace q17 := eq_true q17
              go_wp2
              go_meet
              case rel => exact ⟨_, (((bt a0 0) == a1)), (by first | rfl | (simp; done) | (simp [*]; done) | (simp [wrap64]; done) | (simp [isEmpty_bne]; done)), H', ⟨by first | omega | exact Nat.le_refl _⟩, ⟨by repeat (first | (with_reducible first | exact HB.out | apply below_alloc | apply pw_below_drewN | apply below_drew1) | exact HB.out)⟩⟩
          case rest =>
            clear HC14
            try clear c1
            try clear p1
            try clear q1
            try clear hx1
            try clear hcv1
            try clear qi1
            try clear p2
            try clear c3
            try clear c3b0
            try clear c3b1
            try clear c3b2
            try clear c4
            try clear c4b0
            try clear c4b1
            try clear p5
            try clear q5
            try clear hx5
            try clear qi5
            try clear p6
            try clear c9
            try clear c9b0
            try clear hcv13
            try clear p15
            try clear q15
            try clear hx15
            try clear qi15
            try clear c16
            try clear c16b0
            try clear c16b1
            try clear p17
            try clear q17
            try clear hx17
            try clear qi17
            try clear p15
            try clear p17
            try clear p5
            try clear q15
            try clear q17
            try clear q5
            obtain ⟨kq, x29_13, rfl, HA, HJ13, HB⟩ := hcut
            cases kq with
            | zero => exact absurd HA.out (by simp [token_escape.j0])
            | succ kj13 =>
              have H := HA.out
              clear HA
              simp only [token_escape.j0] at H
              by_cases c18 : x29_13 = true
              · subst c18
                have H1 : (if 0 < (a0.size : Int) then (if 0 ≤ 1 then (if 1 ≤ (a0.size : Int) then (some (wrap64 (bt a0 0), a0.extract 0 1, 1, true)) else (none)) else (none)) else (none)) = some (r1, r2, r3, r4) := by rw [if_pos rfl] at H; exact H
                clear H
                have H := H1
                clear H1
                by_cases c19 : 0 < (a0.size : Int)
                · rw [if_pos c19] at H
                  have c19b0 : decide (0 < (a0.size : Int)) = true := decide_eq_true c19
                  have c19b1 : decide (0 < a0.size) = true := decide_eq_true (by omega)
                  clear c19
                  by_cases c21 : 0 ≤ 1
                  · rw [if_pos c21] at H
                    have c21b0 := eq_true c21
                    have c21b1 : decide (0 ≤ 1) = true := decide_eq_true c21
                    clear c21
                    by_cases c22 : 1 ≤ (a0.size : Int)
                    · rw [if_pos c22] at H
                      have c22b0 := eq_true c22
                      have c22b1 : decide (1 ≤ (a0.size : Int)) = true := decide_eq_true c22
                      clear c22
                      simp only [Option.some.injEq, Prod.mk.injEq] at H
                      obtain ⟨rfl, rfl, rfl, rfl⟩ := H
                      try go_wp2
                      have n0_ := Aside0.mk (below_drew1 HB.out)
                      clear HB
                      have HB := n0_
                      clear n0_
                      have p20 : 0 ≤ (0 : Int) := (by omega)
                      have q20 : 0 < a0.size := (by have : (0 : Int) < (a0.size : Int) := of_decide_eq_true (by first | (with_reducible assumption) | assumption); omega)
                      have hx20 : ∀ h : 0 < a0.size, ((a0[0]'h).toNat : Int) = bt a0 0 := bt_at a0 0
                      clear p20
                      have qi20 : (0 < (a0.size : Int)) = True := eq_true (of_decide_eq_true (by first | (with_reducible assumption) | assumption))
                      replace q20 := eq_true q20
                      refine start_ (n := 9) (S := fun w' => True) (ds := []) #[false, false, false, false, false, false, false, false, false] (by kernel_rfl) rfl rfl trivial (fun hHeld => ?_); refine with_tabW token_escape.tab9 token_escape.bits9 (fun HT_ HW_ => ?_)
                      generalize wc.drew = w23 at HB hHeld ⊢
                      refine pure_ (i := 0) (N := some 39) (v := ?_) (a' := ?_) #[true, false, false, false, false, false, false, false, false] rfl rfl (any_of HT_.out (by kernel_rfl)) (fun _ _ _ h => h) (Or.inl ⟨by rfl, ?_⟩) ?_ ?_
                      rotate_left
                      · intro w'
                        go_simp
                        with_reducible rfl
                      rotate_left
                      · simp only [Act.put, List.setIfInBounds_toArray, List.set_cons_zero, List.set_cons_succ, i64_w, i32_w]
                        rfl
                      refine pure_ (i := 3) (N := some 42) (v := ?_) (a' := ?_) #[true, false, false, true, false, false, false, false, false] rfl rfl (any_of HT_.out (by kernel_rfl)) (fun _ _ _ h => h) (Or.inl ⟨by rfl, ?_⟩) ?_ ?_
                      rotate_left
                      · intro w'
                        go_simp
                        with_reducible rfl
                      rotate_left
                      · simp only [Act.put, List.setIfInBounds_toArray, List.set_cons_zero, List.set_cons_succ, i64_w, i32_w]
                        rfl
                      refine pure_ (i := 4) (N := some 43) (v := ?_) (a' := ?_) #[true, false, false, true, true, false, false, false, false] rfl rfl (any_of HT_.out (by kernel_rfl)) (fun _ _ _ h => h) (Or.inl ⟨by rfl, ?_⟩) ?_ ?_
                      rotate_left
                      · intro w'
                        go_simp
                        with_reducible rfl
                      rotate_left
                      · simp only [Act.put, List.setIfInBounds_toArray, List.set_cons_zero, List.set_cons_succ, i64_w, i32_w]
                        rfl
                      refine take_ (i := 1) (N := some 40) (v := ?_) (a' := ?_) #[true, true, false, true, true, false, false, false, false] rfl rfl (take_ofW HT_.out HW_.out (by kernel_rfl)) (fun _ _ _ h => h) (Or.inl ⟨by rfl, ?_⟩) hHeld ?_ ?_
                      rotate_left
                      · intro w' _
                        go_simp
                        with_reducible rfl
                      rotate_left
                      · simp only [Act.put, List.setIfInBounds_toArray, List.set_cons_zero, List.set_cons_succ, i64_w, i32_w]
                        rfl
                      refine pure_ (i := 2) (N := some 41) (v := ?_) (a' := ?_) #[true, true, true, true, true, false, false, false, false] rfl rfl (any_of HT_.out (by kernel_rfl)) (fun _ _ _ h => h) (Or.inl ⟨by rfl, ?_⟩) ?_ ?_
                      rotate_left
                      · intro w'
                        go_simp
                        with_reducible rfl
                      rotate_left
                      · simp only [Act.put, List.setIfInBounds_toArray, List.set_cons_zero, List.set_cons_succ, i64_w, i32_w]
                        rfl
                      refine pure_ (i := 5) (N := some 4) (v := ?_) (a' := ?_) #[true, true, true, true, true, true, false, false, false] rfl rfl (any_of HT_.out (by kernel_rfl)) (fun _ _ _ h => h) (Or.inl ⟨by rfl, ?_⟩) ?_ ?_
                      rotate_left
                      · intro w'
                        go_simp
                        with_reducible rfl
                      rotate_left
                      · simp only [Act.put, List.setIfInBounds_toArray, List.set_cons_zero, List.set_cons_succ, i64_w, i32_w]
                        rfl
                      refine pure_ (i := 6) (N := some 5) (v := ?_) (a' := ?_) #[true, true, true, true, true, true, true, false, false] rfl rfl (any_of HT_.out (by kernel_rfl)) (fun _ _ _ h => h) (Or.inl ⟨by rfl, ?_⟩) ?_ ?_
                      rotate_left
                      · intro w'
                        go_simp
                        with_reducible rfl
                      rotate_left
                      · simp only [Act.put, List.setIfInBounds_toArray, List.set_cons_zero, List.set_cons_succ, i64_w, i32_w]
                        rfl
                      refine pure_ (i := 7) (N := some 6) (v := ?_) (a' := ?_) #[true, true, true, true, true, true, true, true, false] rfl rfl (any_of HT_.out (by kernel_rfl)) (fun _ _ _ h => h) (Or.inl ⟨by rfl, ?_⟩) ?_ ?_
                      rotate_left
                      · intro w'
                        go_simp
                        with_reducible rfl
                      rotate_left
                      · simp only [Act.put, List.setIfInBounds_toArray, List.set_cons_zero, List.set_cons_succ, i64_w, i32_w]
                        rfl
                      refine pure_ (i := 8) (N := some 7) (v := ?_) (a' := ?_) #[true, true, true, true, true, true, true, true, true] rfl rfl (any_of HT_.out (by kernel_rfl)) (fun _ _ _ h => h) (Or.inl ⟨by rfl, ?_⟩) ?_ ?_
                      rotate_left
                      · intro w'
                        go_simp
                        with_reducible rfl
                      rotate_left
                      · simp only [Act.put, List.setIfInBounds_toArray, List.set_cons_zero, List.set_cons_succ, i64_w, i32_w]
                        rfl
                      refine done_ (done_of HT_.out (by kernel_rfl)) ?_
                      try go_wp2
                      refine bodyPost_ret (results_list (rs := [.tmp 4, .tmp 5, .tmp 6, .tmp 7]) rfl (by simp) (.tmp (.tmp (.tmp (.tmp .nil))))) rfl ?_
                      exact ⟨by first | rfl | (simp [errW_none, errW_some] <;> rfl) | (simp [*, errW_none, errW_some] <;> rfl), by repeat (first | (with_reducible first | exact HB.out | apply below_alloc | apply pw_below_drewN | apply below_drew1) | exact HB.out)⟩
                    · rw [if_neg c22] at H
                      exact absurd H (by simp)
                  · rw [if_neg c21] at H
                    exact absurd H (by simp)
                · rw [if_neg c19] at H
                  exact absurd H (by simp)
              · replace c18 := Bool.eq_false_iff.mpr c18
                subst c18
                have H1 : (if 0 < (a0.size : Int) then (if (bt a0 0) = 120 then (token_escape.j1 kj13 a0 2 16 1) else (if (bt a0 0) = 117 then (token_escape.j1 kj13 a0 4 16 1) else (if (bt a0 0) = 85 then (token_escape.j1 kj13 a0 8 16 1) else (token_escape.j1 kj13 a0 3 8 0)))) else (none)) = some (r1, r2, r3, r4) := by rw [if_neg (show ¬ (false = true) by decide)] at H; exact H
                clear H
                have H := H1
                clear H1
                by_cases c24 : 0 < (a0.size : Int)
                · rw [if_pos c24] at H
                  have c24b0 : decide (0 < (a0.size : Int)) = true := decide_eq_true c24
                  have c24b1 : decide (0 < a0.size) = true := decide_eq_true (by omega)
                  clear c24
                  by_cases c26 : (bt a0 0) = 120
                  · rw [if_pos c26] at H
                    have c26b0 : ((bt a0 0) == 120) = true := beq_iff_eq.mpr c26
                    have c26b1 : ((bt a0 0) != 120) = false := bne_eq_false_iff_eq.mpr c26
                    clear c26
                    have H' := Aside0.mk H
                    clear H
                    have p25 : 0 ≤ (0 : Int) := (by omega)
                    have q25 : 0 < a0.size := (by have : (0 : Int) < (a0.size : Int) := of_decide_eq_true (by first | (with_reducible assumption) | assumption); omega)
                    have hx25 : ∀ h : 0 < a0.size, ((a0[0]'h).toNat : Int) = bt a0 0 := bt_at a0 0
                    clear p25
                    have qi25 : (0 < (a0.size : Int)) = True := eq_true (of_decide_eq_true (by first | (with_reducible assumption) | assumption))
                    replace q25 := eq_true q25
                    go_wp2
                    go_meet
                    case rel => exact ⟨_, (2), (16), (1), (by first | rfl | (simp; done) | (simp [*]; done) | (simp [wrap64]; done) | (simp [isEmpty_bne]; done)), (by first | rfl | (simp; done) | (simp [*]; done) | (simp [wrap64]; done) | (simp [isEmpty_bne]; done)), (by first | rfl | (simp; done) | (simp [*]; done) | (simp [wrap64]; done) | (simp [isEmpty_bne]; done)), H', ⟨by have := HJ13.out; first | omega | exact Nat.le_refl _⟩, ⟨by repeat (first | (with_reducible first | exact HB.out | apply below_alloc | apply pw_below_drewN | apply below_drew1) | exact HB.out)⟩⟩
                  · rw [if_neg c26] at H
                    have c26b0 : ((bt a0 0) == 120) = false := beq_eq_false_iff_ne.mpr c26
                    have c26b1 : ((bt a0 0) != 120) = true := bne_iff_ne.mpr c26
                    by_cases c28 : (bt a0 0) = 117
                    · rw [if_pos c28] at H
                      have c28b0 : ((bt a0 0) == 117) = true := beq_iff_eq.mpr c28
                      have c28b1 : ((bt a0 0) != 117) = false := bne_eq_false_iff_eq.mpr c28
                      clear c28
                      have H' := Aside0.mk H
                      clear H
                      have p25 : 0 ≤ (0 : Int) := (by omega)
                      have q25 : 0 < a0.size := (by have : (0 : Int) < (a0.size : Int) := of_decide_eq_true (by first | (with_reducible assumption) | assumption); omega)
                      have hx25 : ∀ h : 0 < a0.size, ((a0[0]'h).toNat : Int) = bt a0 0 := bt_at a0 0
                      clear p25
                      have qi25 : (0 < (a0.size : Int)) = True := eq_true (of_decide_eq_true (by first | (with_reducible assumption) | assumption))
                      replace q25 := eq_true q25
                      have p27 : 0 ≤ (0 : Int) := (by omega)
                      have q27 : 0 < a0.size := (by have : (0 : Int) < (a0.size : Int) := of_decide_eq_true (by first | (with_reducible assumption) | assumption); omega)
                      have hx27 : ∀ h : 0 < a0.size, ((a0[0]'h).toNat : Int) = bt a0 0 := bt_at a0 0
                      clear p27
                      have qi27 : (0 < (a0.size : Int)) = True := eq_true (of_decide_eq_true (by first | (with_reducible assumption) | assumption))
                      replace q27 := eq_true q27
                      go_wp2
                      go_meet
                      case rel => exact ⟨_, (4), (16), (1), (by first | rfl | (simp; done) | (simp [*]; done) | (simp [wrap64]; done) | (simp [isEmpty_bne]; done)), (by first | rfl | (simp; done) | (simp [*]; done) | (simp [wrap64]; done) | (simp [isEmpty_bne]; done)), (by first | rfl | (simp; done) | (simp [*]; done) | (simp [wrap64]; done) | (simp [isEmpty_bne]; done)), H', ⟨by have := HJ13.out; first | omega | exact Nat.le_refl _⟩, ⟨by repeat (first | (with_reducible first | exact HB.out | apply below_alloc | apply pw_below_drewN | apply below_drew1) | exact HB.out)⟩⟩
                    · rw [if_neg c28] at H
                      have c28b0 : ((bt a0 0) == 117) = false := beq_eq_false_iff_ne.mpr c28
                      have c28b1 : ((bt a0 0) != 117) = true := bne_iff_ne.mpr c28
                      by_cases c30 : (bt a0 0) = 85
                      · rw [if_pos c30] at H
                        have c30b0 : ((bt a0 0) == 85) = true := beq_iff_eq.mpr c30
                        have c30b1 : ((bt a0 0) != 85) = false := bne_eq_false_iff_eq.mpr c30
                        clear c30
                        have H' := Aside0.mk H
                        clear H
                        have p25 : 0 ≤ (0 : Int) := (by omega)
                        have q25 : 0 < a0.size := (by have : (0 : Int) < (a0.size : Int) := of_decide_eq_true (by first | (with_reducible assumption) | assumption); omega)
                        have hx25 : ∀ h : 0 < a0.size, ((a0[0]'h).toNat : Int) = bt a0 0 := bt_at a0 0
                        clear p25
                        have qi25 : (0 < (a0.size : Int)) = True := eq_true (of_decide_eq_true (by first | (with_reducible assumption) | assumption))
                        replace q25 := eq_true q25
                        have p27 : 0 ≤ (0 : Int) := (by omega)
                        have q27 : 0 < a0.size := (by have : (0 : Int) < (a0.size : Int) := of_decide_eq_true (by first | (with_reducible assumption) | assumption); omega)
                        have hx27 : ∀ h : 0 < a0.size, ((a0[0]'h).toNat : Int) = bt a0 0 := bt_at a0 0
                        clear p27
                        have qi27 : (0 < (a0.size : Int)) = True := eq_true (of_decide_eq_true (by first | (with_reducible assumption) | assumption))
                        replace q27 := eq_true q27
                        have p29 : 0 ≤ (0 : Int) := (by omega)
                        have q29 : 0 < a0.size := (by have : (0 : Int) < (a0.size : Int) := of_decide_eq_true (by first | (with_reducible assumption) | assumption); omega)
                        have hx29 : ∀ h : 0 < a0.size, ((a0[0]'h).toNat : Int) = bt a0 0 := bt_at a0 0
                        clear p29
                        have qi29 : (0 < (a0.size : Int)) = True := eq_true (of_decide_eq_true (by first | (with_reducible assumption) | assumption))
                        replace q29 := eq_true q29
                        go_wp2
                        go_meet
                        case rel => exact ⟨_, (8), (16), (1), (by first | rfl | (simp; done) | (simp [*]; done) | (simp [wrap64]; done) | (simp [isEmpty_bne]; done)), (by first | rfl | (simp; done) | (simp [*]; done) | (simp [wrap64]; done) | (simp [isEmpty_bne]; done)), (by first | rfl | (simp; done) | (simp [*]; done) | (simp [wrap64]; done) | (simp [isEmpty_bne]; done)), H', ⟨by have := HJ13.out; first | omega | exact Nat.le_refl _⟩, ⟨by repeat (first | (with_reducible first | exact HB.out | apply below_alloc | apply pw_below_drewN | apply below_drew1) | exact HB.out)⟩⟩
                      · rw [if_neg c30] at H
                        have c30b0 : ((bt a0 0) == 85) = false := beq_eq_false_iff_ne.mpr c30
                        have c30b1 : ((bt a0 0) != 85) = true := bne_iff_ne.mpr c30
                        have H' := Aside0.mk H
                        clear H
                        have p25 : 0 ≤ (0 : Int) := (by omega)
                        have q25 : 0 < a0.size := (by have : (0 : Int) < (a0.size : Int) := of_decide_eq_true (by first | (with_reducible assumption) | assumption); omega)
                        have hx25 : ∀ h : 0 < a0.size, ((a0[0]'h).toNat : Int) = bt a0 0 := bt_at a0 0
                        clear p25
                        have qi25 : (0 < (a0.size : Int)) = True := eq_true (of_decide_eq_true (by first | (with_reducible assumption) | assumption))
                        replace q25 := eq_true q25
                        have p27 : 0 ≤ (0 : Int) := (by omega)
                        have q27 : 0 < a0.size := (by have : (0 : Int) < (a0.size : Int) := of_decide_eq_true (by first | (with_reducible assumption) | assumption); omega)
                        have hx27 : ∀ h : 0 < a0.size, ((a0[0]'h).toNat : Int) = bt a0 0 := bt_at a0 0
                        clear p27
                        have qi27 : (0 < (a0.size : Int)) = True := eq_true (of_decide_eq_true (by first | (with_reducible assumption) | assumption))
                        replace q27 := eq_true q27
                        have p29 : 0 ≤ (0 : Int) := (by omega)
                        have q29 : 0 < a0.size := (by have : (0 : Int) < (a0.size : Int) := of_decide_eq_true (by first | (with_reducible assumption) | assumption); omega)
                        have hx29 : ∀ h : 0 < a0.size, ((a0[0]'h).toNat : Int) = bt a0 0 := bt_at a0 0
                        clear p29
                        have qi29 : (0 < (a0.size : Int)) = True := eq_true (of_decide_eq_true (by first | (with_reducible assumption) | assumption))
                        replace q29 := eq_true q29
                        go_wp2
                        go_meet
                        case rel => exact ⟨_, (3), (8), (0), (by first | rfl | (simp; done) | (simp [*]; done) | (simp [wrap64]; done) | (simp [isEmpty_bne]; done)), (by first | rfl | (simp; done) | (simp [*]; done) | (simp [wrap64]; done) | (simp [isEmpty_bne]; done)), (by first | rfl | (simp; done) | (simp [*]; done) | (simp [wrap64]; done) | (simp [isEmpty_bne]; done)), H', ⟨by have := HJ13.out; first | omega | exact Nat.le_refl _⟩, ⟨by repeat (first | (with_reducible first | exact HB.out | apply below_alloc | apply pw_below_drewN | apply below_drew1) | exact HB.out)⟩⟩
                · rw [if_neg c24] at H
                  exact absurd H (by simp)
      case rest =>
        clear HC7
        try clear c1
        try clear p1
        try clear q1
        try clear hx1
        try clear hcv1
        try clear qi1
        try clear c2
        try clear p2
        try clear q2
        try clear hx2
        try clear qi2
        try clear c3
        try clear c3b0
        try clear c3b1
        try clear c3b2
        try clear c4
        try clear c4b0
        try clear c4b1
        try clear p5
        try clear q5
        try clear hx5
        try clear qi5
        try clear p6
        try clear c9
        try clear c9b0
        try clear hcv13
        try clear p15
        try clear q15
        try clear hx15
        try clear qi15
        try clear c16
        try clear c16b0
        try clear c16b1
        try clear p17
        try clear q17
        try clear hx17
        try clear qi17
        try clear c18
        try clear c19
        try clear c19b0
        try clear c19b1
        try clear p20
        try clear q20
        try clear hx20
        try clear qi20
        try clear c21
        try clear c21b0
        try clear c21b1
        try clear c22
        try clear c22b0
        try clear c22b1
        try clear c24
        try clear c24b0
        try clear c24b1
        try clear p25
        try clear q25
        try clear hx25
        try clear qi25
        try clear c26
        try clear c26b0
        try clear c26b1
        try clear p27
        try clear q27
        try clear hx27
        try clear qi27
        try clear c28
        try clear c28b0
        try clear c28b1
        try clear p29
        try clear q29
        try clear hx29
        try clear qi29
        try clear c30
        try clear c30b0
        try clear c30b1
        try clear p1
        try clear p15
        try clear p17
        try clear p2
        try clear p20
        try clear p25
        try clear p27
        try clear p29
        try clear p5
        try clear p6
        try clear q1
        try clear q15
        try clear q17
        try clear q20
        try clear q25
        try clear q27
        try clear q29
        try clear q5
        obtain ⟨kq, x9_6, x10_6, x11_6, rfl, rfl, rfl, HA, HJ6, HB⟩ := hcut
        cases kq with
        | zero => exact absurd HA.out (by simp [token_escape.j1])
        | succ kj6 =>
          have H := HA.out
          clear HA
          simp only [token_escape.j1] at H
          by_cases c31 : 0 ≤ x11_6
          · rw [if_pos c31] at H
            have c31b0 := eq_true c31
            have c31b1 : decide (0 ≤ x11_6) = true := decide_eq_true c31
            clear c31
            by_cases c32 : x11_6 ≤ (a0.size : Int)
            · rw [if_pos c32] at H
              have c32b0 := eq_true c32
              have c32b1 : decide (x11_6 ≤ (a0.size : Int)) = true := decide_eq_true c32
              clear c32
              replace H := Option.bind_eq_some_iff.mp H
              obtain ⟨⟨t107, t108⟩, A330, H⟩ := H
              replace H : (if t108 = true then (if x9_6 < 4 then (if t107 > 255 then (token_escape.j2 kj6 x9_6 x11_6 t107 (decide (t107 > 255))) else (if x9_6 ≥ 4 then ((utf8_ValidRune.f kj6 (wrap32 (mn t107 1073741824))).bind fun t109 => (token_escape.j2 kj6 x9_6 x11_6 t107 (!t109))) else (token_escape.j2 kj6 x9_6 x11_6 t107 false))) else (if x9_6 ≥ 4 then ((utf8_ValidRune.f kj6 (wrap32 (mn t107 1073741824))).bind fun t110 => (token_escape.j2 kj6 x9_6 x11_6 t107 (!t110))) else (token_escape.j2 kj6 x9_6 x11_6 t107 false))) else (token_escape.j2 kj6 x9_6 x11_6 t107 (!t108))) = some (r1, r2, r3, r4) := H
              have A33 := Aside0.mk A330
              clear A330
              have HC34 := Aside0.mk H
              clear H
              go_upto_if 65 with (first | ((with_reducible refine gate_callee (f := 57) rfl ?_); refine goesL_ (some 62) rfl rfl Tryd.func57 (by kernel_rfl) rfl #[.string (a0.extract (x11_6 : Int).toNat a0.size), .int .i64 x9_6, .int .i64 x10_6] rfl (by (try simp only [List.map_toArray, List.map_cons, List.map_nil]); first | done | rfl | (simp only [List.length_drop, List.length_take]; rfl) | (rw [extract_all]; rfl)) ?_; (with_reducible refine (token_value.calls kj6 (a0.extract (x11_6 : Int).toNat a0.size) x9_6 x10_6 t107 t108 _ A33.out).mono ?_); rintro e w' ⟨rfl, ⟨nd, rfl⟩⟩; refine ⟨_, rfl, ?_⟩))
              (try simp only [Act.put, List.setIfInBounds_toArray, List.set_cons_zero, List.set_cons_succ])
              go_cut [65] (fun v65 wc => ∃ (kq : Nat) (x65_33 : Bool), v65 = .bool x65_33 ∧ Aside0 (token_escape.j2 kq x9_6 x11_6 t107 x65_33 = some (r1, r2, r3, r4)) ∧ Aside0 (kq ≤ kj6) ∧ Aside0 (Below w.heap.size w wc))
              case first =>
                have H := HC34.out
                clear HC34
                by_cases c35 : t108 = true
                · subst c35
                  have H1 : (if x9_6 < 4 then (if t107 > 255 then (token_escape.j2 kj6 x9_6 x11_6 t107 (decide (t107 > 255))) else (if x9_6 ≥ 4 then ((utf8_ValidRune.f kj6 (wrap32 (mn t107 1073741824))).bind fun t109 => (token_escape.j2 kj6 x9_6 x11_6 t107 (!t109))) else (token_escape.j2 kj6 x9_6 x11_6 t107 false))) else (if x9_6 ≥ 4 then ((utf8_ValidRune.f kj6 (wrap32 (mn t107 1073741824))).bind fun t110 => (token_escape.j2 kj6 x9_6 x11_6 t107 (!t110))) else (token_escape.j2 kj6 x9_6 x11_6 t107 false))) = some (r1, r2, r3, r4) := by rw [if_pos rfl] at H; exact H
                  clear H
                  have H := H1
                  clear H1
                  by_cases c36 : x9_6 < 4
                  · rw [if_pos c36] at H
                    have c36b0 : decide (x9_6 < 4) = true := decide_eq_true c36
                    clear c36
                    (first | rw [c36b0] | (simp only [i64_w, i32_w]; rw [c36b0]) | skip)
                    by_cases c37 : t107 > 255
                    · rw [if_pos c37] at H
                      have c37b0 : decide (255 < t107) = true := decide_eq_true c37
                      clear c37
                      have H' := Aside0.mk H
                      clear H
                      go_wp2
                      go_meet
                      case rel => exact ⟨_, (decide (t107 > 255)), (by first | rfl | (simp; done) | (simp [*]; done) | (simp [wrap64]; done) | (simp [isEmpty_bne]; done)), H', ⟨by have := HJ6.out; first | omega | exact Nat.le_refl _⟩, ⟨by repeat (first | (with_reducible first | exact HB.out | apply below_alloc | apply pw_below_drewN | apply below_drew1) | exact HB.out)⟩⟩
                    · rw [if_neg c37] at H
                      have c37b0 : decide (255 < t107) = false := decide_eq_false c37
                      clear c37
                      by_cases c38 : x9_6 ≥ 4
                      · rw [if_pos c38] at H
                        have c38b0 : decide (4 ≤ x9_6) = true := decide_eq_true c38
                        clear c38
                        obtain ⟨ji39, hji39⟩ : ∃ j_ : Int, (mn t107 1073741824) = j_ := ⟨_, rfl⟩
                        replace H : ((utf8_ValidRune.f kj6 (wrap32 (ji39))).bind fun t109 => (token_escape.j2 kj6 x9_6 x11_6 t107 (!t109))) = some (r1, r2, r3, r4) := by first | (rw [hji39] at H; exact H) | (simp only [hji39] at H ⊢; exact H)
                        (try (have hji39h : ji39 ≤ 1073741824 := by (rw [← hji39]; unfold mn; (repeat' split) <;> omega)))
                        (try (have hji39g : ji39 ≤ 64 := by omega))
                        have hji39_ : (if 1073741824 < t107 then 1073741824 else t107) = ji39 := hji39
                        replace H := Option.bind_eq_some_iff.mp H
                        obtain ⟨t109, A400, H⟩ := H
                        replace H : (token_escape.j2 kj6 x9_6 x11_6 t107 (!t109)) = some (r1, r2, r3, r4) := H
                        have A40 := Aside0.mk A400
                        clear A400
                        have H' := Aside0.mk H
                        clear H
                        go_wp2_with (first | (go_at_call 58; (with_reducible refine (utf8_ValidRune.calls kj6 (wrap32 (ji39)) t109 _ A40.out).mono ?_); rintro e w' ⟨rfl, ⟨nd, rfl⟩⟩))
                        go_meet
                        case rel => exact ⟨_, (!t109), (by first | rfl | (simp; done) | (simp [*]; done) | (simp [wrap64]; done) | (simp [isEmpty_bne]; done)), H', ⟨by have := HJ6.out; first | omega | exact Nat.le_refl _⟩, ⟨by repeat (first | (with_reducible first | exact HB.out | apply below_alloc | apply pw_below_drewN | apply below_drew1) | exact HB.out)⟩⟩
                      · rw [if_neg c38] at H
                        have c38b0 : decide (4 ≤ x9_6) = false := decide_eq_false c38
                        clear c38
                        have H' := Aside0.mk H
                        clear H
                        go_wp2
                        go_meet
                        case rel => exact ⟨_, (false), (by first | rfl | (simp; done) | (simp [*]; done) | (simp [wrap64]; done) | (simp [isEmpty_bne]; done)), H', ⟨by have := HJ6.out; first | omega | exact Nat.le_refl _⟩, ⟨by repeat (first | (with_reducible first | exact HB.out | apply below_alloc | apply pw_below_drewN | apply below_drew1) | exact HB.out)⟩⟩
                  · rw [if_neg c36] at H
                    have c36b0 : decide (x9_6 < 4) = false := decide_eq_false c36
                    clear c36
                    (first | rw [c36b0] | (simp only [i64_w, i32_w]; rw [c36b0]) | skip)
                    by_cases c41 : x9_6 ≥ 4
                    · rw [if_pos c41] at H
                      have c41b0 : decide (4 ≤ x9_6) = true := decide_eq_true c41
                      clear c41
                      obtain ⟨ji42, hji42⟩ : ∃ j_ : Int, (mn t107 1073741824) = j_ := ⟨_, rfl⟩
                      replace H : ((utf8_ValidRune.f kj6 (wrap32 (ji42))).bind fun t110 => (token_escape.j2 kj6 x9_6 x11_6 t107 (!t110))) = some (r1, r2, r3, r4) := by first | (rw [hji42] at H; exact H) | (simp only [hji42] at H ⊢; exact H)
                      (try (have hji42h : ji42 ≤ 1073741824 := by (rw [← hji42]; unfold mn; (repeat' split) <;> omega)))
                      (try (have hji42g : ji42 ≤ 64 := by omega))
                      have hji42_ : (if 1073741824 < t107 then 1073741824 else t107) = ji42 := hji42
                      replace H := Option.bind_eq_some_iff.mp H
                      obtain ⟨t110, A430, H⟩ := H
                      replace H : (token_escape.j2 kj6 x9_6 x11_6 t107 (!t110)) = some (r1, r2, r3, r4) := H
                      have A43 := Aside0.mk A430
                      clear A430
                      have H' := Aside0.mk H
                      clear H
                      go_wp2_with (first | (go_at_call 58; (with_reducible refine (utf8_ValidRune.calls kj6 (wrap32 (ji42)) t110 _ A43.out).mono ?_); rintro e w' ⟨rfl, ⟨nd, rfl⟩⟩))
                      go_meet
                      case rel => exact ⟨_, (!t110), (by first | rfl | (simp; done) | (simp [*]; done) | (simp [wrap64]; done) | (simp [isEmpty_bne]; done)), H', ⟨by have := HJ6.out; first | omega | exact Nat.le_refl _⟩, ⟨by repeat (first | (with_reducible first | exact HB.out | apply below_alloc | apply pw_below_drewN | apply below_drew1) | exact HB.out)⟩⟩
                    · rw [if_neg c41] at H
                      have c41b0 : decide (4 ≤ x9_6) = false := decide_eq_false c41
                      clear c41
                      have H' := Aside0.mk H
                      clear H
                      go_wp2
                      go_meet
                      case rel => exact ⟨_, (false), (by first | rfl | (simp; done) | (simp [*]; done) | (simp [wrap64]; done) | (simp [isEmpty_bne]; done)), H', ⟨by have := HJ6.out; first | omega | exact Nat.le_refl _⟩, ⟨by repeat (first | (with_reducible first | exact HB.out | apply below_alloc | apply pw_below_drewN | apply below_drew1) | exact HB.out)⟩⟩
                · replace c35 := Bool.eq_false_iff.mpr c35
                  subst c35
                  have H1 : (token_escape.j2 kj6 x9_6 x11_6 t107 (!false)) = some (r1, r2, r3, r4) := by rw [if_neg (show ¬ (false = true) by decide)] at H; exact H
                  clear H
                  have H := H1
                  clear H1
                  have H' := Aside0.mk H
                  clear H
                  go_wp2
                  go_meet
                  case rel => exact ⟨_, (!false), (by first | rfl | (simp; done) | (simp [*]; done) | (simp [wrap64]; done) | (simp [isEmpty_bne]; done)), H', ⟨by have := HJ6.out; first | omega | exact Nat.le_refl _⟩, ⟨by repeat (first | (with_reducible first | exact HB.out | apply below_alloc | apply pw_below_drewN | apply below_drew1) | exact HB.out)⟩⟩
              case rest =>
                clear HC34
                try clear c1
                try clear p1
                try clear q1
                try clear hx1
                try clear hcv1
                try clear qi1
                try clear c2
                try clear p2
                try clear q2
                try clear hx2
                try clear qi2
                try clear c3
                try clear c3b0
                try clear c3b1
                try clear c3b2
                try clear p3
                try clear c4
                try clear c4b0
                try clear c4b1
                try clear c5
                try clear p5
                try clear q5
                try clear hx5
                try clear qi5
                try clear p6
                try clear c9
                try clear c9b0
                try clear hcv13
                try clear p15
                try clear q15
                try clear hx15
                try clear qi15
                try clear c16
                try clear c16b0
                try clear c16b1
                try clear p17
                try clear q17
                try clear hx17
                try clear qi17
                try clear c18
                try clear c19
                try clear c19b0
                try clear c19b1
                try clear p20
                try clear q20
                try clear hx20
                try clear qi20
                try clear c21
                try clear c21b0
                try clear c21b1
                try clear c22
                try clear c22b0
                try clear c22b1
                try clear c24
                try clear c24b0
                try clear c24b1
                try clear p25
                try clear q25
                try clear hx25
                try clear qi25
                try clear c26
                try clear c26b0
                try clear c26b1
                try clear p27
                try clear q27
                try clear hx27
                try clear qi27
                try clear c28
                try clear c28b0
                try clear c28b1
                try clear p29
                try clear q29
                try clear hx29
                try clear qi29
                try clear c30
                try clear c30b0
                try clear c30b1
                try clear c31
                try clear c31b0
                try clear c31b1
                try clear c32
                try clear c32b0
                try clear c32b1
                try clear p32
                try clear c35
                try clear c36
                try clear c36b0
                try clear c37
                try clear c37b0
                try clear c38
                try clear c38b0
                try clear c41
                try clear c41b0
                try clear p1
                try clear p15
                try clear p17
                try clear p2
                try clear p20
                try clear p25
                try clear p27
                try clear p29
                try clear p5
                try clear p6
                try clear q1
                try clear q15
                try clear q17
                try clear q2
                try clear q20
                try clear q25
                try clear q27
                try clear q29
                try clear q5
                obtain ⟨kq, x65_33, rfl, HA, HJ33, HB⟩ := hcut
                cases kq with
                | zero => exact absurd HA.out (by simp [token_escape.j2])
                | succ kj33 =>
                  have H := HA.out
                  clear HA
                  simp only [token_escape.j2] at H
                  by_cases c44 : x65_33 = true
                  · subst c44
                    have H1 : (some (0, (⟨#[]⟩ : ByteArray), 0, false)) = some (r1, r2, r3, r4) := by rw [if_pos rfl] at H; exact H
                    clear H
                    have H := H1
                    clear H1
                    simp only [Option.some.injEq, Prod.mk.injEq] at H
                    obtain ⟨rfl, rfl, rfl, rfl⟩ := H
                    go_wp2
                    refine bodyPost_ret (results_list (rs := [.tmp 4, .tmp 5, .tmp 6, .tmp 7]) rfl (by simp) (.tmp (.tmp (.tmp (.tmp .nil))))) rfl ?_
                    exact ⟨by first | rfl | (simp [errW_none, errW_some] <;> rfl) | (simp [*, errW_none, errW_some] <;> rfl), by repeat (first | (with_reducible first | exact HB.out | apply below_alloc | apply pw_below_drewN | apply below_drew1) | exact HB.out)⟩
                  · replace c44 := Bool.eq_false_iff.mpr c44
                    subst c44
                    have H1 : (if x9_6 < 4 then (some (t107, strOfNums (([(t107) % 256] : List Int)), wrap64 (x9_6 + x11_6), true)) else (some (t107, Utf8.encode (wrap32 (t107)), wrap64 (x9_6 + x11_6), true))) = some (r1, r2, r3, r4) := by rw [if_neg (show ¬ (false = true) by decide)] at H; exact H
                    clear H
                    have H := H1
                    clear H1
                    by_cases c45 : x9_6 < 4
                    · rw [if_pos c45] at H
                      have c45b0 : decide (x9_6 < 4) = true := decide_eq_true c45
                      clear c45
                      obtain ⟨y111, hy111⟩ : ∃ y_ : List Int, y_ = (([(t107) % 256] : List Int)) := ⟨_, rfl⟩
                      replace H : (some (t107, strOfNums y111, wrap64 (x9_6 + x11_6), true)) = some (r1, r2, r3, r4) := by first | (rw [hy111]; with_reducible exact H) | (have H2_ := (Option.bind_some _ _).symm.trans H; rw [hy111]; with_reducible exact H2_) | (have H2_ := (Option.bind_some _ _).symm.trans H; with_reducible exact H2_) | with_reducible exact H | (rw [hy111]; exact H) | exact H
                      have Ny111 := Aside0.mk hy111
                      clear hy111
                      simp only [Option.some.injEq, Prod.mk.injEq] at H
                      obtain ⟨rfl, rfl, rfl, rfl⟩ := H
                      try go_wp2
                      have n0_ := Aside0.mk (below_drew1 HB.out)
                      clear HB
                      have HB := n0_
                      clear n0_
                      refine start_ (n := 12) (S := fun w' => True) (ds := []) #[false, false, false, false, false, false, false, false, false, false, false, false] (by kernel_rfl) rfl rfl trivial (fun hHeld => ?_); refine with_tabW token_escape.tab22 token_escape.bits22 (fun HT_ HW_ => ?_)
                      generalize wc.drew = w46 at HB hHeld ⊢
                      refine pure_ (i := 0) (N := some 86) (v := ?_) (a' := ?_) #[true, false, false, false, false, false, false, false, false, false, false, false] rfl rfl (any_of HT_.out (by kernel_rfl)) (fun _ _ _ h => h) (Or.inl ⟨by rfl, ?_⟩) ?_ ?_
                      rotate_left
                      · intro w'
                        go_simp
                        with_reducible rfl
                      rotate_left
                      · simp only [Act.put, List.setIfInBounds_toArray, List.set_cons_zero, List.set_cons_succ, i64_w, i32_w]
                        rfl
                      refine pure_ (i := 1) (N := some 87) (v := ?_) (a' := ?_) #[true, true, false, false, false, false, false, false, false, false, false, false] rfl rfl (any_of HT_.out (by kernel_rfl)) (fun _ _ _ h => h) (Or.inl ⟨by rfl, ?_⟩) ?_ ?_
                      rotate_left
                      · intro w'
                        go_simp
                        with_reducible rfl
                      rotate_left
                      · simp only [Act.put, List.setIfInBounds_toArray, List.set_cons_zero, List.set_cons_succ, i64_w, i32_w]
                        rfl
                      refine pure_ (i := 2) (N := some 88) (v := ?_) (a' := ?_) #[true, true, true, false, false, false, false, false, false, false, false, false] rfl rfl (any_of HT_.out (by kernel_rfl)) (fun _ _ _ h => h) (Or.inl ⟨by rfl, ?_⟩) ?_ ?_
                      rotate_left
                      · intro w'
                        go_simp
                        with_reducible rfl
                      rotate_left
                      · simp only [Act.put, List.setIfInBounds_toArray, List.set_cons_zero, List.set_cons_succ, i64_w, i32_w]
                        rfl
                      refine pure_ (i := 5) (N := some 91) (v := ?_) (a' := ?_) #[true, true, true, false, false, true, false, false, false, false, false, false] rfl rfl (any_of HT_.out (by kernel_rfl)) (fun _ _ _ h => h) (Or.inl ⟨by rfl, ?_⟩) ?_ ?_
                      rotate_left
                      · intro w'
                        go_simp
                        with_reducible rfl
                      rotate_left
                      · simp only [Act.put, List.setIfInBounds_toArray, List.set_cons_zero, List.set_cons_succ, i64_w, i32_w]
                        rfl
                      refine pure_ (i := 6) (N := some 92) (v := ?_) (a' := ?_) #[true, true, true, false, false, true, true, false, false, false, false, false] rfl rfl (any_of HT_.out (by kernel_rfl)) (fun _ _ _ h => h) (Or.inl ⟨by rfl, ?_⟩) ?_ ?_
                      rotate_left
                      · intro w'
                        go_simp
                        with_reducible rfl
                      rotate_left
                      · simp only [Act.put, List.setIfInBounds_toArray, List.set_cons_zero, List.set_cons_succ, i64_w, i32_w]
                        rfl
                      refine pure_ (i := 7) (N := some 93) (v := ?_) (a' := ?_) #[true, true, true, false, false, true, true, true, false, false, false, false] rfl rfl (any_of HT_.out (by kernel_rfl)) (fun _ _ _ h => h) (Or.inl ⟨by rfl, ?_⟩) ?_ ?_
                      rotate_left
                      · intro w'
                        go_simp
                        with_reducible rfl
                      rotate_left
                      · simp only [Act.put, List.setIfInBounds_toArray, List.set_cons_zero, List.set_cons_succ, i64_w, i32_w]
                        rfl
                      refine pure_ (i := 8) (N := some 4) (v := ?_) (a' := ?_) #[true, true, true, false, false, true, true, true, true, false, false, false] rfl rfl (any_of HT_.out (by kernel_rfl)) (fun _ _ _ h => h) (Or.inl ⟨by rfl, ?_⟩) ?_ ?_
                      rotate_left
                      · intro w'
                        go_simp
                        with_reducible rfl
                      rotate_left
                      · simp only [Act.put, List.setIfInBounds_toArray, List.set_cons_zero, List.set_cons_succ, i64_w, i32_w]
                        rfl
                      refine one_ (i := 3) (N := some 89) #[true, true, true, true, false, true, true, true, true, false, false, false] rfl rfl (one_of HT_.out (by kernel_rfl)) (by decide) (fun K hK => ?_)
                      refine Kd.R_lit_step (Kd.int .u8) _ 5 ?hg (N := 89) ?hd (xs := ([(t107) % 256] : List Int)) (inner := [.int .u8 ((t107) % 256)]) (ok := fun _ => True) (okp := fun _ => True) ?hr ?hp (fun _ hk => hk) trivial (Below.refl _ _) (Nat.le_refl _) (by simp) ?_; (case hd => rfl); (case hg => rfl); (case hr => first | (go_simp; done) | (go_simp; rfl)); (case hp => exact (Reps.one (show Kd.M (Kd.int .u8) _ _ _ ((t107) % 256) [.int .u8 ((t107) % 256)] from rfl) (Reps.none _ _)))
                      intro v112 w47 ho48 hb hg_ hnew_
                      clear hg_ hnew_
                      (first | rw [← Ny111.out] at ho48 | (simp only [Int.reduceToNat] at ho48; rw [← Ny111.out] at ho48))
                      have n0_ := Aside0.mk (Kd.R_lower ho48 (below_size (by repeat (first | (with_reducible first | exact HB.out | apply below_alloc | apply pw_below_drewN | apply below_drew1) | exact HB.out))))
                      have n1_ := Aside0.mk (below_step (by repeat (first | (with_reducible first | exact HB.out | apply below_alloc | apply pw_below_drewN | apply below_drew1) | exact HB.out)) hb)
                      clear HB
                      have HO113 := n0_
                      have HB := n1_
                      clear n0_ n1_
                      clear hb ho48
                      refine hK.out _ _ trivial (fun hHeld => ?_)
                      clear hK K
                      refine norm_ (a' := ?_) ?_ ?_
                      rotate_left
                      · show Act.put _ (some 89) _ = _
                        simp only [Act.put, List.setIfInBounds_toArray, List.set_cons_zero, List.set_cons_succ, i64_w, i32_w]
                        rfl
                      refine one_ (i := 4) (N := some 90) #[true, true, true, true, true, true, true, true, true, false, false, false] rfl rfl (one_of HT_.out (by kernel_rfl)) (by decide) (fun K hK => ?_)
                      have hcv49 := own_string (P := Tryd.prog) Tryd.underlying34 Tryd.underlying5 Tryd.underlying9 (Kd.own_of_R HO113.out)
                      refine value_ (w1 := ?_) (v := ?_) (by rfl) rfl ?_ ?_
                      rotate_left 2
                      · go_simp
                        constructor
                        · rfl
                        · rfl
                      clear hcv49
                      refine hK.out _ _ trivial (fun hHeld => ?_)
                      clear hK K
                      refine norm_ (a' := ?_) ?_ ?_
                      rotate_left
                      · show Act.put _ (some 90) _ = _
                        simp only [Act.put, List.setIfInBounds_toArray, List.set_cons_zero, List.set_cons_succ, i64_w, i32_w]
                        rfl
                      refine pure_ (i := 9) (N := some 5) (v := ?_) (a' := ?_) #[true, true, true, true, true, true, true, true, true, true, false, false] rfl rfl (any_of HT_.out (by kernel_rfl)) (fun _ _ _ h => h) (Or.inl ⟨by rfl, ?_⟩) ?_ ?_
                      rotate_left
                      · intro w'
                        go_simp
                        with_reducible rfl
                      rotate_left
                      · simp only [Act.put, List.setIfInBounds_toArray, List.set_cons_zero, List.set_cons_succ, i64_w, i32_w]
                        rfl
                      refine pure_ (i := 10) (N := some 6) (v := ?_) (a' := ?_) #[true, true, true, true, true, true, true, true, true, true, true, false] rfl rfl (any_of HT_.out (by kernel_rfl)) (fun _ _ _ h => h) (Or.inl ⟨by rfl, ?_⟩) ?_ ?_
                      rotate_left
                      · intro w'
                        go_simp
                        with_reducible rfl
                      rotate_left
                      · simp only [Act.put, List.setIfInBounds_toArray, List.set_cons_zero, List.set_cons_succ, i64_w, i32_w]
                        rfl
                      refine pure_ (i := 11) (N := some 7) (v := ?_) (a' := ?_) #[true, true, true, true, true, true, true, true, true, true, true, true] rfl rfl (any_of HT_.out (by kernel_rfl)) (fun _ _ _ h => h) (Or.inl ⟨by rfl, ?_⟩) ?_ ?_
                      rotate_left
                      · intro w'
                        go_simp
                        with_reducible rfl
                      rotate_left
                      · simp only [Act.put, List.setIfInBounds_toArray, List.set_cons_zero, List.set_cons_succ, i64_w, i32_w]
                        rfl
                      refine done_ (done_of HT_.out (by kernel_rfl)) ?_
                      try go_wp2
                      refine bodyPost_ret (results_list (rs := [.tmp 4, .tmp 5, .tmp 6, .tmp 7]) rfl (by simp) (.tmp (.tmp (.tmp (.tmp .nil))))) rfl ?_
                      exact ⟨by first | rfl | (simp [errW_none, errW_some] <;> rfl) | (simp [*, errW_none, errW_some] <;> rfl), by repeat (first | (with_reducible first | exact HB.out | apply below_alloc | apply pw_below_drewN | apply below_drew1) | exact HB.out)⟩
                    · rw [if_neg c45] at H
                      have c45b0 : decide (x9_6 < 4) = false := decide_eq_false c45
                      clear c45
                      simp only [Option.some.injEq, Prod.mk.injEq] at H
                      obtain ⟨rfl, rfl, rfl, rfl⟩ := H
                      go_wp2
                      refine bodyPost_ret (results_list (rs := [.tmp 4, .tmp 5, .tmp 6, .tmp 7]) rfl (by simp) (.tmp (.tmp (.tmp (.tmp .nil))))) rfl ?_
                      exact ⟨by first | rfl | (simp [errW_none, errW_some] <;> rfl) | (simp [*, errW_none, errW_some] <;> rfl), by repeat (first | (with_reducible first | exact HB.out | apply below_alloc | apply pw_below_drewN | apply below_drew1) | exact HB.out)⟩
            · rw [if_neg c32] at H
              exact absurd H (by simp)
          · rw [if_neg c31] at H
            exact absurd H (by simp)
    · rw [if_neg c4] at H
      exact absurd H (by simp)

end Go.Proofs.YtkpceagbjodbbaaDoor.PA
