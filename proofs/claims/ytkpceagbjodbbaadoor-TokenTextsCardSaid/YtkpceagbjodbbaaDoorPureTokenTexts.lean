/- What a rune literal says, for token and its reference. Own work. -/
import Derived.Test.YtkpceagbjodbbaaDoorPA18
import Derived.Test.YtkpceagbjodbbaaDoorPreTokenTexts
import Derived.KernelRfl
import Derived.Lib.DecodeN
import Derived.Laws.BitsLemmas
import Derived.Test.YtkpceagbjodbbaaDoorPA16
import Derived.Test.YtkpceagbjodbbaaDoorPA19
import Derived.Test.YtkpceagbjodbbaaDoorPA3
import Derived.Test.YtkpceagbjodbbaaDoorPA6
import Derived.Test.YtkpceagbjodbbaaDoorX1
import Derived.Test.YtkpceagbjodbbaaDoorPB1
import Derived.Test.YtkpceagbjodbbaaDoorPB3
namespace Go.Proofs.YtkpceagbjodbbaaDoor.Pure
open Go.RowKit Go.Proofs.YtkpceagbjodbbaaDoorW.PrintWords Go.Proofs.YtkpceagbjodbbaaDoorW.PrintLast Go.Proofs.YtkpceagbjodbbaaDoorW.PrintMore Go.Proofs.YtkpceagbjodbbaaDoor.PA Go.Proofs.YtkpceagbjodbbaaDoor.Ext Go.Proofs.YtkpceagbjodbbaaDoor.Plain
set_option linter.unusedVariables false
set_option linter.unusedSimpArgs false

/-! ### the reference's Char -/
def leadN (n : Nat) : Nat := if n = 2 then 192 else if n = 3 then 224 else 240
def roomN (n : Nat) : Nat := if n = 2 then 32 else if n = 3 then 16 else 8
def leastN (n : Nat) : Nat := if n = 2 then 128 else if n = 3 then 2048 else 65536
theorem u8_192 (b : UInt8) : (Go.bits .and .u8 (b.toNat : Int) 192 == 128) = decide (b.toNat / 64 = 2) := by
  have := all256 (fun b => (Go.bits .and .u8 (b.toNat : Int) 192 == 128) == decide (b.toNat / 64 = 2)) (by kernel_rfl) b
  exact beq_iff_eq.1 this
theorem char_step (s : ByteArray) (a n i : Nat) (c x9 : Int) (x10 : Bool) (hs : s.size ≤ 140737488355328) (hi : i < a + n) (his : i < s.size) (hn : a + n ≤ 140737488355328) (h0 : -1000000000 ≤ x9) (h1 : x9 ≤ 1000000000) {X : Int × Int}
    (h : Ev (fun k => scholiastref02_Char.l1 k s a c n (x9 * 64 + bt s i % 64) (x10 && decide (bt s i / 64 = 2)) ((i + 1 : Nat) : Int)) X) : Ev (fun k => scholiastref02_Char.l1 k s a c n x9 x10 i) X := by
  obtain ⟨b, hb⟩ : ∃ b : UInt8, bt s i = (b.toNat : Int) := ⟨_, bt_getD s i⟩
  have hlt := byte_lt b
  have m1 : Go.bits .and .u8 (bt s i) 63 = bt s i % 64 := by rw [hb]; exact u8_and63 _ (by omega) (by omega)
  have m2 : (Go.bits .and .u8 (bt s i) 192 == 128) = decide (bt s i / 64 = 2) := by
    rw [hb, u8_192 b]
    exact decide_eq_decide.2 (by omega)
  have p1 : wrap64 (x9 * 64) = x9 * 64 := wrap_small (by omega) (by omega)
  have p2 : wrap64 (bt s i % 64) = bt s i % 64 := wrap_small (by rw [hb]; omega) (by rw [hb]; omega)
  have p3 : wrap64 (x9 * 64 + bt s i % 64) = x9 * 64 + bt s i % 64 := wrap_small (by rw [hb]; omega) (by rw [hb]; omega)
  have q1 : wrap64 ((a : Int) + (n : Int)) = ((a + n : Nat) : Int) := (wrap_small (by omega) (by omega)).trans (by omega)
  have q2 : wrap64 ((i : Int) + 1) = ((i + 1 : Nat) : Int) := (wrap_small (by omega) (by omega)).trans (by omega)
  refine Ev.step (fun k => ?_) h
  simp only [scholiastref02_Char.l1]
  have g1 : ((i : Int) < ((a + n : Nat) : Int)) = True := eq_true (Int.ofNat_lt.2 hi)
  have g2 : ((0 : Int) ≤ (i : Int)) = True := eq_true (Int.natCast_nonneg i)
  have g3 : ((i : Int) < (s.size : Int)) = True := eq_true (Int.ofNat_lt.2 his)
  simp only [q1, q2, m1, m2, p1, p2, p3, g1, g2, g3, if_true]
  cases x10 <;> simp
theorem char_end (s : ByteArray) (a n : Nat) (c x9 : Int) (x10 : Bool) (hn : n = 2 ∨ n = 3 ∨ n = 4) (ha : a ≤ 140737488355328) {X : Int × Int}
    (hgood : (x10 = true ∧ x9 ≤ 1114111 ∧ (x9 < 55296 ∨ 57343 < x9) ∧ (leastN n : Int) ≤ x9) → X = (x9, (n : Int)))
    (hbad : ¬ (x10 = true ∧ x9 ≤ 1114111 ∧ (x9 < 55296 ∨ 57343 < x9) ∧ (leastN n : Int) ≤ x9) → Ev (fun k => scholiastref02_Char.l0 k s a c ((n + 1 : Nat) : Int)) X) :
    Ev (fun k => scholiastref02_Char.l1 k s a c n x9 x10 ((a + n : Nat) : Int)) X := by
  have q1 : wrap64 ((a : Int) + (n : Int)) = ((a + n : Nat) : Int) := (wrap_small (by omega) (by omega)).trans (by omega)
  have q3 : wrap64 ((n : Int) + 1) = ((n + 1 : Nat) : Int) := (wrap_small (by omega) (by omega)).trans (by omega)
  have q4 : wrap64 ((n : Int) - 2) = ((n - 2 : Nat) : Int) := (wrap_small (by omega) (by omega)).trans (by omega)
  have r1 : rd [128, 2048, 65536] ((n - 2 : Nat) : Int) = (leastN n : Int) := by rcases hn with rfl | rfl | rfl <;> rfl
  have g1 : (((a + n : Nat) : Int) < ((a + n : Nat) : Int)) = False := eq_false (Int.lt_irrefl _)
  have g2 : ((0 : Int) ≤ ((n - 2 : Nat) : Int)) = True := eq_true (Int.natCast_nonneg _)
  have g3 : (((n - 2 : Nat) : Int) < ((([128, 2048, 65536] : List Int).length : Nat) : Int)) = True := eq_true (by show ((n - 2 : Nat) : Int) < 3; omega)
  by_cases hg : x10 = true ∧ x9 ≤ 1114111 ∧ (x9 < 55296 ∨ 57343 < x9) ∧ (leastN n : Int) ≤ x9
  · rw [hgood hg]
    obtain ⟨h1, h2, h3, h4⟩ := hg
    refine Ev.step (f := fun _ => some (x9, (n : Int))) (fun k => ?_) (Ev.now _)
    simp only [scholiastref02_Char.l1, q1, g1, if_false]
    rw [if_pos h1, if_pos h2]
    by_cases h5 : x9 < 55296
    · rw [if_pos h5]
      simp only [Option.bind_some, q4, g2, g3, if_true, r1]
      rw [if_pos h4]
    · rw [if_neg h5, if_pos (h3.resolve_left h5)]
      simp only [Option.bind_some, q4, g2, g3, if_true, r1]
      rw [if_pos h4]
  · refine Ev.step (fun k => ?_) (hbad hg)
    simp only [scholiastref02_Char.l1, q1, q3, g1, if_false]
    by_cases h1 : x10 = true
    · rw [if_pos h1]
      by_cases h2 : x9 ≤ 1114111
      · rw [if_pos h2]
        by_cases h5 : x9 < 55296
        · rw [if_pos h5]
          simp only [Option.bind_some, q4, g2, g3, if_true, r1]
          rw [if_neg (fun h4 => hg ⟨h1, h2, Or.inl h5, h4⟩)]
        · rw [if_neg h5]
          by_cases h6 : x9 > 57343
          · rw [if_pos h6]
            simp only [Option.bind_some, q4, g2, g3, if_true, r1]
            rw [if_neg (fun h4 => hg ⟨h1, h2, Or.inr h6, h4⟩)]
          · rw [if_neg h6]
      · rw [if_neg h2]
    · rw [if_neg h1]
theorem char_head (s : ByteArray) (a n : Nat) (c : Int) (hn : n = 2 ∨ n = 3 ∨ n = 4) (ha : a ≤ 140737488355328) (hs : s.size ≤ 140737488355328) (hr : a + n ≤ s.size) (hc0 : 0 ≤ c) (hc1 : c < 256) {X : Int × Int}
    (h : Ev (fun k => scholiastref02_Char.l1 k s a c n (c - (leadN n : Int)) (decide (0 ≤ c - (leadN n : Int) ∧ c - (leadN n : Int) < (roomN n : Int))) ((a + 1 : Nat) : Int)) X) : Ev (fun k => scholiastref02_Char.l0 k s a c n) X := by
  have q1 : wrap64 ((a : Int) + (n : Int)) = ((a + n : Nat) : Int) := (wrap_small (by omega) (by omega)).trans (by omega)
  have q4 : wrap64 ((n : Int) - 2) = ((n - 2 : Nat) : Int) := (wrap_small (by omega) (by omega)).trans (by omega)
  have q5 : wrap64 (7 - (n : Int)) = ((7 - n : Nat) : Int) := (wrap_small (by omega) (by omega)).trans (by omega)
  have q6 : wrap64 ((a : Int) + 1) = ((a + 1 : Nat) : Int) := (wrap_small (by omega) (by omega)).trans (by omega)
  have hlead : (leadN n : Int) ≤ 240 ∧ 0 ≤ (leadN n : Int) := by rcases hn with rfl | rfl | rfl <;> decide
  have q7 : wrap64 (c - (leadN n : Int)) = c - (leadN n : Int) := wrap_small (by omega) (by omega)
  have r1 : rd [192, 224, 240] ((n - 2 : Nat) : Int) = (leadN n : Int) := by rcases hn with rfl | rfl | rfl <;> rfl
  have r2 : shl .i64 1 ((7 - n : Nat) : Int) = (roomN n : Int) := by rcases hn with rfl | rfl | rfl <;> decide
  have g0 : ((n : Int) ≤ 4) = True := eq_true (by omega)
  have g1 : decide (((a + n : Nat) : Int) ≤ (s.size : Int)) = true := decide_eq_true (Int.ofNat_le.2 hr)
  have g2 : ((0 : Int) ≤ ((n - 2 : Nat) : Int)) = True := eq_true (Int.natCast_nonneg _)
  have g3 : (((n - 2 : Nat) : Int) < ((([192, 224, 240] : List Int).length : Nat) : Int)) = True := eq_true (by show ((n - 2 : Nat) : Int) < 3; omega)
  have g4 : ((0 : Int) ≤ ((7 - n : Nat) : Int)) = True := eq_true (Int.natCast_nonneg _)
  have h2 : Ev (fun k => scholiastref02_Char.j2 k s a c n (c - (leadN n : Int)) (decide (0 ≤ c - (leadN n : Int) ∧ c - (leadN n : Int) < (roomN n : Int)))) X := by
    refine Ev.step (fun k => ?_) h
    simp only [scholiastref02_Char.j2, q6]
  refine Ev.step (f := fun k => scholiastref02_Char.j1 k s a c n true) (fun k => ?_) (Ev.step (fun k => ?_) h2)
  · simp only [scholiastref02_Char.l0, g0, if_true, q1]
    rw [g1]
  · simp only [scholiastref02_Char.j1, if_true, Option.bind_some, q4, g2, g3, r1, q7, q5, g4, r2]
    by_cases hp : 0 ≤ c - (leadN n : Int)
    · rw [if_pos hp]
      congr 1
      exact decide_eq_decide.2 ⟨fun h => ⟨hp, h⟩, fun h => h.2⟩
    · rw [if_neg hp]
      congr 1
      symm
      exact decide_eq_false (fun h => hp h.1)
theorem char_stop (s : ByteArray) (a n : Nat) (c : Int) (hn : n ≤ 5) (ha : a ≤ 140737488355328) (hr : ¬ (n ≤ 4 ∧ a + n ≤ s.size)) : Ev (fun k => scholiastref02_Char.l0 k s a c n) (0, 0) := by
  have q1 : wrap64 ((a : Int) + (n : Int)) = ((a + n : Nat) : Int) := (wrap_small (by omega) (by omega)).trans (by omega)
  refine Ev.step (f := fun k => scholiastref02_Char.j1 k s a c n false) (fun k => ?_) (Ev.step (f := fun _ => some (0, 0)) (fun k => ?_) (Ev.now _))
  · simp only [scholiastref02_Char.l0, q1]
    by_cases h4 : (n : Int) ≤ 4
    · rw [if_pos h4, decide_eq_false (fun h => hr ⟨by omega, Int.ofNat_le.1 h⟩)]
    · rw [if_neg h4]
  · simp only [scholiastref02_Char.j1]
    rw [if_neg (by decide)]
end Go.Proofs.YtkpceagbjodbbaaDoor.Pure
/- What a rune literal says, for token and its reference (second part). Own work. -/
namespace Go.Proofs.YtkpceagbjodbbaaDoor.Pure
open Go.RowKit Go.Proofs.YtkpceagbjodbbaaDoorW.PrintWords Go.Proofs.YtkpceagbjodbbaaDoorW.PrintLast Go.Proofs.YtkpceagbjodbbaaDoorW.PrintMore Go.Proofs.YtkpceagbjodbbaaDoor.PA Go.Proofs.YtkpceagbjodbbaaDoor.Ext Go.Proofs.YtkpceagbjodbbaaDoor.Plain
set_option linter.unusedVariables false
set_option linter.unusedSimpArgs false
/-- The rune at the beginning, and its width; no bytes: there is none. -/
def charOf (N b0 b1 b2 b3 : Nat) : Nat × Nat := if (Lib.decodeN N b0 b1 b2 b3).1 = 65533 ∧ (Lib.decodeN N b0 b1 b2 b3).2 ≤ 1 then (0, 0) else Lib.decodeN N b0 b1 b2 b3
def castP (p : Nat × Nat) : Int × Int := ((p.1 : Int), (p.2 : Int))
def byteN (s : ByteArray) (i : Nat) : Nat := (s.data.toList.getD i 0).toNat
theorem byteN_lt (s : ByteArray) (i : Nat) : byteN s i < 256 := UInt8.toNat_lt _
theorem byteN_bt (s : ByteArray) (i : Nat) : bt s i = (byteN s i : Int) := bt_getD s i
theorem charOf_1 (N b0 b1 b2 b3 : Nat) (h : b0 < 128) : charOf N b0 b1 b2 b3 = (b0, 1) := by
  unfold charOf Lib.decodeN
  rw [if_pos h]
  simp
  omega
theorem charOf_2 (N b0 b1 b2 b3 : Nat) (h0 : ¬ b0 < 128) (h : 192 ≤ b0 ∧ b0 < 224 ∧ b1 / 64 = 2 ∧ 1 < N) (hv : 128 ≤ (b0 - 192) * 64 + b1 % 64) : charOf N b0 b1 b2 b3 = ((b0 - 192) * 64 + b1 % 64, 2) := by
  have e : Lib.decodeN N b0 b1 b2 b3 = ((b0 - 192) * 64 + b1 % 64, 2) := by
    unfold Lib.decodeN
    have ev : b0 % 32 * 64 + b1 % 64 = (b0 - 192) * 64 + b1 % 64 := by omega
    rw [if_neg h0, if_pos ⟨by omega, h.2.2.2, h.2.2.1⟩, ev, if_pos (by omega)]
  unfold charOf
  rw [e, if_neg (by simp)]
theorem charOf_3 (N b0 b1 b2 b3 : Nat) (h0 : ¬ b0 < 128) (h : 224 ≤ b0 ∧ b0 < 240 ∧ b1 / 64 = 2 ∧ b2 / 64 = 2 ∧ 2 < N) (v : Nat) (hv : v = (b0 - 224) * 4096 + b1 % 64 * 64 + b2 % 64) (h1 : 2048 ≤ v) (h2 : v < 55296 ∨ 57344 ≤ v) : charOf N b0 b1 b2 b3 = (v, 3) := by
  have e : Lib.decodeN N b0 b1 b2 b3 = (v, 3) := by
    unfold Lib.decodeN
    have ev : b0 % 16 * 4096 + b1 % 64 * 64 + b2 % 64 = v := by omega
    rw [if_neg h0, if_neg (by omega), if_pos ⟨by omega, ⟨by omega, h.2.2.1⟩, h.2.2.2.2, h.2.2.2.1⟩, ev, if_pos (by omega)]
  unfold charOf
  rw [e, if_neg (by simp)]
theorem charOf_4 (N b0 b1 b2 b3 : Nat) (h0 : ¬ b0 < 128) (h : 240 ≤ b0 ∧ b0 < 248 ∧ b1 / 64 = 2 ∧ b2 / 64 = 2 ∧ b3 / 64 = 2 ∧ 3 < N) (v : Nat) (hv : v = (b0 - 240) * 262144 + b1 % 64 * 4096 + b2 % 64 * 64 + b3 % 64) (h1 : 65536 ≤ v) (h2 : v ≤ 1114111) : charOf N b0 b1 b2 b3 = (v, 4) := by
  have e : Lib.decodeN N b0 b1 b2 b3 = (v, 4) := by
    unfold Lib.decodeN
    have ev : b0 % 8 * 262144 + b1 % 64 * 4096 + b2 % 64 * 64 + b3 % 64 = v := by omega
    rw [if_neg h0, if_neg (by omega), if_neg (by omega), if_pos ⟨by omega, ⟨by omega, h.2.2.1⟩, ⟨by omega, h.2.2.2.1⟩, h.2.2.2.2.2, h.2.2.2.2.1⟩, ev, if_pos (by omega)]
  unfold charOf
  rw [e, if_neg (by simp)]
theorem charOf_0 (N b0 b1 b2 b3 : Nat) (h0 : ¬ b0 < 128) (n2 : ¬ (192 ≤ b0 ∧ b0 < 224 ∧ b1 / 64 = 2 ∧ 1 < N ∧ 128 ≤ (b0 - 192) * 64 + b1 % 64))
    (n3 : ¬ (224 ≤ b0 ∧ b0 < 240 ∧ b1 / 64 = 2 ∧ b2 / 64 = 2 ∧ 2 < N ∧ 2048 ≤ (b0 - 224) * 4096 + b1 % 64 * 64 + b2 % 64 ∧ ((b0 - 224) * 4096 + b1 % 64 * 64 + b2 % 64 < 55296 ∨ 57344 ≤ (b0 - 224) * 4096 + b1 % 64 * 64 + b2 % 64)))
    (n4 : ¬ (240 ≤ b0 ∧ b0 < 248 ∧ b1 / 64 = 2 ∧ b2 / 64 = 2 ∧ b3 / 64 = 2 ∧ 3 < N ∧ 65536 ≤ (b0 - 240) * 262144 + b1 % 64 * 4096 + b2 % 64 * 64 + b3 % 64 ∧ (b0 - 240) * 262144 + b1 % 64 * 4096 + b2 % 64 * 64 + b3 % 64 ≤ 1114111)) (hb : b0 < 256) :
    charOf N b0 b1 b2 b3 = (0, 0) := by
  have e : Lib.decodeN N b0 b1 b2 b3 = (65533, 1) := by
    unfold Lib.decodeN
    rw [if_neg h0]
    by_cases c2 : b0 / 32 = 6 ∧ (1 < N ∧ b1 / 64 = 2)
    · rw [if_pos c2, if_neg (by omega)]
    · rw [if_neg c2]
      by_cases c3 : b0 / 16 = 14 ∧ (1 < N ∧ b1 / 64 = 2) ∧ (2 < N ∧ b2 / 64 = 2)
      · rw [if_pos c3, if_neg (by omega)]
      · rw [if_neg c3]
        by_cases c4 : b0 / 8 = 30 ∧ (1 < N ∧ b1 / 64 = 2) ∧ (2 < N ∧ b2 / 64 = 2) ∧ (3 < N ∧ b3 / 64 = 2)
        · rw [if_pos c4, if_neg (by omega)]
        · rw [if_neg c4]
  unfold charOf
  rw [e, if_pos (by simp)]
theorem char_is (s : ByteArray) (hs : s.size ≤ 140737488355328) (h1 : 1 < s.size) : Ev (fun k => scholiastref02_Char.f k s 1) (castP (charOf (s.size - 1) (byteN s 1) (byteN s 2) (byteN s 3) (byteN s 4))) := by
  have l1 := byteN_lt s 1; have l2 := byteN_lt s 2; have l3 := byteN_lt s 3; have l4 := byteN_lt s 4
  have e1 : bt s 1 = (byteN s 1 : Int) := byteN_bt s 1
  have e2 := byteN_bt s 2; have e3 := byteN_bt s 3; have e4 := byteN_bt s 4
  generalize byteN s 1 = b0 at *
  generalize byteN s 2 = b1 at *
  generalize byteN s 3 = b2 at *
  generalize byteN s 4 = b3 at *
  have w0 : wrap64 (b0 : Int) = b0 := wrap_small (by omega) (by omega)
  have W0 := Aside0.mk w0
  clear w0
  by_cases c128 : b0 < 128
  · rw [charOf_1 _ _ _ _ _ c128]
    refine Ev.congr (fun k => ?_) (Ev.now _)
    simp only [scholiastref02_Char.f]
    rw [if_neg (by omega), if_pos (by omega), if_pos (by omega), e1, W0.out, if_pos (by omega)]
    rfl
  · have st : ∀ {X}, Ev (fun k => scholiastref02_Char.l0 k s ((1 : Nat) : Int) (b0 : Int) ((2 : Nat) : Int)) X → Ev (fun k => scholiastref02_Char.f k s 1) X := by
      intro X hX
      refine Ev.congr (fun k => ?_) hX
      simp only [scholiastref02_Char.f]
      rw [if_neg (by omega), if_pos (by omega), if_pos (by omega), e1, W0.out, if_neg (by omega)]
      rfl
    refine st ?_
    clear st W0
    by_cases r2 : 3 ≤ s.size
    · refine char_head s 1 2 b0 (Or.inl rfl) (by decide) hs (by omega) (by omega) (by omega) ?_
      have d2 : leadN 2 = 192 := rfl
      have d2r : roomN 2 = 32 := rfl
      have d2l : leastN 2 = 128 := rfl
      refine char_step s 1 2 2 b0 _ _ hs (by decide) (by omega) (by decide) (by omega) (by omega) ?_
      rw [e2]
      refine char_end s 1 2 b0 _ _ (Or.inl rfl) (by decide) ?_ ?_
      · rintro ⟨g1, g2, g3, g4⟩
        simp only [Bool.and_eq_true, decide_eq_true_eq] at g1
        rw [charOf_2 _ _ _ _ _ c128 ⟨by omega, by omega, by omega, by omega⟩ (by omega)]
        unfold castP
        refine Prod.ext ?_ rfl
        simp only
        omega
      · intro hb2
        simp only [Bool.and_eq_true, decide_eq_true_eq] at hb2
        by_cases r3 : 4 ≤ s.size
        · refine char_head s 1 3 b0 (Or.inr (Or.inl rfl)) (by decide) hs (by omega) (by omega) (by omega) ?_
          have d3 : leadN 3 = 224 := rfl
          have d3r : roomN 3 = 16 := rfl
          have d3l : leastN 3 = 2048 := rfl
          refine char_step s 1 3 2 b0 _ _ hs (by decide) (by omega) (by decide) (by omega) (by omega) ?_
          rw [e2]
          refine char_step s 1 3 3 b0 _ _ hs (by decide) (by omega) (by decide) (by omega) (by omega) ?_
          rw [e3]
          refine char_end s 1 3 b0 _ _ (Or.inr (Or.inl rfl)) (by decide) ?_ ?_
          · rintro ⟨g1, g2, g3, g4⟩
            simp only [Bool.and_eq_true, decide_eq_true_eq] at g1
            rw [charOf_3 _ _ _ _ _ c128 ⟨by omega, by omega, by omega, by omega, by omega⟩ _ rfl (by omega) (by omega)]
            unfold castP
            refine Prod.ext ?_ rfl
            simp only
            omega
          · intro hb3
            simp only [Bool.and_eq_true, decide_eq_true_eq] at hb3
            by_cases r4 : 5 ≤ s.size
            · refine char_head s 1 4 b0 (Or.inr (Or.inr rfl)) (by decide) hs (by omega) (by omega) (by omega) ?_
              have d4 : leadN 4 = 240 := rfl
              have d4r : roomN 4 = 8 := rfl
              have d4l : leastN 4 = 65536 := rfl
              refine char_step s 1 4 2 b0 _ _ hs (by decide) (by omega) (by decide) (by omega) (by omega) ?_
              rw [e2]
              refine char_step s 1 4 3 b0 _ _ hs (by decide) (by omega) (by decide) (by omega) (by omega) ?_
              rw [e3]
              refine char_step s 1 4 4 b0 _ _ hs (by decide) (by omega) (by decide) (by omega) (by omega) ?_
              rw [e4]
              refine char_end s 1 4 b0 _ _ (Or.inr (Or.inr rfl)) (by decide) ?_ ?_
              · rintro ⟨g1, g2, g3, g4⟩
                simp only [Bool.and_eq_true, decide_eq_true_eq] at g1
                rw [charOf_4 _ _ _ _ _ c128 ⟨by omega, by omega, by omega, by omega, by omega, by omega⟩ _ rfl (by omega) (by omega)]
                unfold castP
                refine Prod.ext ?_ rfl
                simp only
                omega
              · intro hb4
                simp only [Bool.and_eq_true, decide_eq_true_eq] at hb4
                rw [charOf_0 _ _ _ _ _ c128 (by omega) (by omega) (by omega) l1]
                exact char_stop s 1 5 b0 (by decide) (by decide) (by omega)
            · rw [charOf_0 _ _ _ _ _ c128 (by omega) (by omega) (by omega) l1]
              exact char_stop s 1 4 b0 (by decide) (by decide) (by omega)
        · rw [charOf_0 _ _ _ _ _ c128 (by omega) (by omega) (by omega) l1]
          exact char_stop s 1 3 b0 (by decide) (by decide) (by omega)
    · rw [charOf_0 _ _ _ _ _ c128 (by omega) (by omega) (by omega) l1]
      exact char_stop s 1 2 b0 (by decide) (by decide) (by omega)
end Go.Proofs.YtkpceagbjodbbaaDoor.Pure
/- What a rune literal says: token and its reference say the same. Own work. -/
namespace Go.Proofs.YtkpceagbjodbbaaDoor.Pure
open Go.RowKit Go.Proofs.YtkpceagbjodbbaaDoorW.PrintWords Go.Proofs.YtkpceagbjodbbaaDoorW.PrintLast Go.Proofs.YtkpceagbjodbbaaDoorW.PrintMore Go.Proofs.YtkpceagbjodbbaaDoor.PA Go.Proofs.YtkpceagbjodbbaaDoor.Ext Go.Proofs.YtkpceagbjodbbaaDoor.Plain
set_option linter.unusedVariables false
set_option linter.unusedSimpArgs false
theorem get_getD (x : ByteArray) (i : Nat) : (x.get! i).toNat = (x.data.toList.getD i 0).toNat := by
  congr 1
  show x.data[i]! = x.data.toList.getD i 0
  rw [List.getD_eq_getElem?_getD, Array.getElem?_toList, getElem!_def]
  cases x.data[i]? <;> rfl
theorem decode_is (s : ByteArray) (h1 : 1 < s.size) : utf8_DecodeRuneInString.f (s.extract 1 s.size) = some (castP (Lib.decodeN (s.size - 1) (byteN s 1) (byteN s 2) (byteN s 3) (byteN s 4))) := by
  have hx : (s.extract 1 s.size).size = s.size - 1 := by rw [ByteArray.size_extract]; omega
  have hl : (s.extract 1 s.size).data.toList = s.data.toList.drop 1 := by
    rw [ext_list, List.take_of_length_le]
    rw [List.length_drop, len_eq]; omega
  have hg : ∀ i, ((s.extract 1 s.size).get! i).toNat = byteN s (1 + i) := fun i => by
    rw [get_getD, hl]
    unfold byteN
    rw [List.getD_eq_getElem?_getD, List.getD_eq_getElem?_getD, List.getElem?_drop]
  unfold utf8_DecodeRuneInString.f Lib.decodeGo
  rw [if_neg (by omega), Lib.decode_at, hx, hg, hg, hg, hg]
  rfl
theorem tail39 (s : ByteArray) (a : Nat) (ha : a ≤ s.size) : (s.extract a s.size).toList = ([39] : List UInt8) ↔ s.size = a + 1 ∧ bt s a = 39 := by
  have hl : (s.extract a s.size).data.toList = s.data.toList.drop a := by
    rw [ext_list, List.take_of_length_le]
    rw [List.length_drop, len_eq]; omega
  rw [toList_eq, hl]
  have hll := len_eq s
  constructor
  · intro h
    have h2 := congrArg List.length h
    rw [List.length_drop, hll] at h2
    simp at h2
    have hsz : s.size = a + 1 := by omega
    refine ⟨hsz, ?_⟩
    rw [bt_getD]
    have h3 : s.data.toList.getD a 0 = (s.data.toList.drop a).getD 0 0 := by rw [List.getD_eq_getElem?_getD, List.getD_eq_getElem?_getD, List.getElem?_drop]; rfl
    rw [h3, h]
    rfl
  · rintro ⟨h1, h2⟩
    have hlt : a < s.data.toList.length := by omega
    rw [List.drop_eq_getElem_cons hlt, List.drop_eq_nil_of_le (by omega)]
    rw [bt_list s a (by omega)] at h2
    have := (byte_is _ 39 (by decide)).1 h2
    rw [this]
    rfl
theorem decodeN_width (N b0 b1 b2 b3 : Nat) : 1 ≤ (Lib.decodeN N b0 b1 b2 b3).2 ∧ ((Lib.decodeN N b0 b1 b2 b3).2 ≤ N ∨ (Lib.decodeN N b0 b1 b2 b3).2 = 1) ∧ (b0 < 256 → (Lib.decodeN N b0 b1 b2 b3).1 ≤ 2097152) := by
  unfold Lib.decodeN
  repeat' split
  all_goals (refine ⟨?_, ?_, ?_⟩ <;> simp <;> omega)
theorem rune_both (s : ByteArray) (hs : s.size ≤ 140737488355328) : ∃ r, Ev (fun k => token_Rune.f k s) r ∧ Ev (fun k => scholiastref02_Rune.f k s) r := by
  have tbad : Ev (fun k => token_Rune.j0 k s true) (0, 107, 0) := by
    refine Ev.step (f := fun _ => some (0, 107, 0)) (fun k => ?_) (Ev.now _)
    simp only [token_Rune.j0]
    rw [if_pos (by trivial)]
  have rbad : Ev (fun k => scholiastref02_Rune.j0 k s true) (0, 107, 0) := by
    refine Ev.step (f := fun _ => some (0, 107, 0)) (fun k => ?_) (Ev.now _)
    simp only [scholiastref02_Rune.j0]
    rw [if_pos (by trivial)]
  by_cases h2 : s.size < 2
  · refine ⟨_, Ev.congr (fun k => ?_) tbad, Ev.congr (fun k => ?_) rbad⟩
    · simp only [token_Rune.f]; rw [if_pos (by omega)]
    · simp only [scholiastref02_Rune.f]; rw [if_pos (by omega)]
  by_cases h39 : ¬ bt s 0 = 39
  · refine ⟨_, Ev.congr (fun k => ?_) tbad, Ev.congr (fun k => ?_) rbad⟩
    · simp only [token_Rune.f]; rw [if_neg (by omega), if_pos (by omega), if_neg h39]
    · simp only [scholiastref02_Rune.f]; rw [if_neg (by omega), if_pos (by omega), bne_iff_ne.2 h39]
  have h39 := Decidable.not_not.1 h39
  have hch := char_is s hs (by omega)
  have hdec := decode_is s (by omega)
  have hw := decodeN_width (s.size - 1) (byteN s 1) (byteN s 2) (byteN s 3) (byteN s 4)
  have hb1 : bt s 1 = (byteN s 1 : Int) := byteN_bt s 1
  have hl1 := byteN_lt s 1
  have rgo : ∀ {X}, Ev (fun k => scholiastref02_Rune.j0 k s false) X → Ev (fun k => scholiastref02_Rune.f k s) X := by
    intro X hX
    refine Ev.congr (fun k => ?_) hX
    simp only [scholiastref02_Rune.f]
    rw [if_neg (by omega), if_pos (by omega), bne_eq_false_iff_eq.2 h39]
  have g1 : ((1 : Int) < (s.size : Int)) = True := eq_true (by omega)
  have g1' : ((1 : Int) ≤ (s.size : Int)) = True := eq_true (by omega)
  have g2' : ((2 : Int) ≤ (s.size : Int)) = True := eq_true (by omega)
  by_cases h92 : bt s 1 = 92
  · have tgo : ∀ {X}, Ev (fun k => (token_escape.f k (s.extract 2 s.size) 39).bind fun bt126 => (if bt126.2.2.2 = true then (if 0 ≤ (wrap64 (1 + (wrap64 (bt126.2.2.1 + 1)))) then (if (wrap64 (1 + (wrap64 (bt126.2.2.1 + 1)))) ≤ (s.size : Int) then (if (s.extract ((wrap64 (1 + (wrap64 (bt126.2.2.1 + 1)))) : Int).toNat s.size).toList = ([39] : List UInt8) then (some (bt126.1, 0, 0)) else (some (0, 107, 0))) else (none)) else (none)) else (some (0, 108, 1)))) X → Ev (fun k => token_Rune.f k s) X := by
      intro X hX
      refine Ev.congr (f := fun k => token_Rune.j0 k s false) (fun k => ?_) (Ev.step (fun k => ?_) hX)
      · simp only [token_Rune.f]
        rw [if_neg (by omega), if_pos (by omega), if_pos h39, if_pos (by omega), if_neg (by omega), beq_eq_false_iff_ne.2 (by omega)]
      · simp only [token_Rune.j0, g1, g1', g2', hdec, Option.bind_some, h92, if_true, Bool.false_eq_true, if_false]
    have hesc := escape_is (s.extract 2 s.size) 39
    have hle : (s.extract 2 s.size).data.toList = s.data.toList.drop 2 := by
      rw [ext_list, List.take_of_length_le]
      rw [List.length_drop, len_eq]; omega
    rw [hle] at hesc
    have hq39 : ∀ c : UInt8, c = 39 → ∀ v, simpV c ≠ some v := by rintro c rfl v h; cases h
    have hrefe := refescape_is s 1 39 hq39 hs (by omega)
    have q1 : ((39 : UInt8).toNat : Int) = 39 := rfl
    rw [q1] at hesc hrefe
    have rgo2 : ∀ {X}, Ev (fun k => (scholiastref02_Escape.f k s 1 39).bind fun bt236 => (if bt236.2.2 = 0 then (some (0, 108, 1)) else (if (92 : Int) = 39 then (some (0, 107, 0)) else (if (92 : Int) = 10 then (some (0, 107, 0)) else (if (s.size : Int) = (wrap64 (bt236.2.2 + 2)) then (if 0 ≤ (wrap64 (bt236.2.2 + 1)) then (if (wrap64 (bt236.2.2 + 1)) < (s.size : Int) then (if (bt s (wrap64 (bt236.2.2 + 1))) = 39 then (some (bt236.1, 0, 0)) else (some (0, 107, 0))) else (none)) else (none)) else (some (0, 107, 0))))))) X → Ev (fun k => scholiastref02_Rune.f k s) X := by
      intro X hX
      refine rgo (Ev.step (f := fun k => (scholiastref02_Char.f k s 1).bind fun _ => (scholiastref02_Escape.f k s 1 39).bind fun bt236 => (if bt236.2.2 = 0 then (some (0, 108, 1)) else (if (92 : Int) = 39 then (some (0, 107, 0)) else (if (92 : Int) = 10 then (some (0, 107, 0)) else (if (s.size : Int) = (wrap64 (bt236.2.2 + 2)) then (if 0 ≤ (wrap64 (bt236.2.2 + 1)) then (if (wrap64 (bt236.2.2 + 1)) < (s.size : Int) then (if (bt s (wrap64 (bt236.2.2 + 1))) = 39 then (some (bt236.1, 0, 0)) else (some (0, 107, 0))) else (none)) else (none)) else (some (0, 107, 0))))))) (fun k => ?_) (Ev.bind hch hX))
      simp only [scholiastref02_Rune.j0, g1, h92, if_true, Bool.false_eq_true, if_false]
    cases hE : escV 39 (s.data.toList.drop 2) with
    | none =>
      have hrefe' : Ev (fun k => scholiastref02_Escape.f k s 1 39) (escQ none) := by rw [← hE]; exact hrefe
      rw [hE] at hesc
      refine ⟨(0, 108, 1), tgo (Ev.bind hesc ?_), rgo2 (Ev.bind hrefe' ?_)⟩
      · simp only [escR, Bool.false_eq_true, if_false]
        exact Ev.now _
      · simp only [escQ, if_true]
        exact Ev.now _
    | some t =>
      obtain ⟨v, b, m⟩ := t
      obtain ⟨m1, m2, m3⟩ := escV_len _ _ _ _ _ hE
      rw [List.length_drop, len_eq] at m2
      have hrefe' : Ev (fun k => scholiastref02_Escape.f k s 1 39) (escQ (some (v, b, m))) := by rw [← hE]; exact hrefe
      rw [hE] at hesc
      have t39 := tail39 s (m + 2) (by omega)
      have b1 : (-9223372036854775808 : Int) ≤ (m : Int) + 1 := by omega
      have b2 : (m : Int) + 1 < 9223372036854775808 := by omega
      have b3 : (-9223372036854775808 : Int) ≤ 1 + ((m : Int) + 1) := by omega
      have b4 : 1 + ((m : Int) + 1) < 9223372036854775808 := by omega
      have b5 : (-9223372036854775808 : Int) ≤ (m : Int) + 1 + 2 := by omega
      have b6 : (m : Int) + 1 + 2 < 9223372036854775808 := by omega
      have b7 : (-9223372036854775808 : Int) ≤ (m : Int) + 1 + 1 := by omega
      have b8 : (m : Int) + 1 + 1 < 9223372036854775808 := by omega
      have e1 : 1 + ((m : Int) + 1) = ((m + 2 : Nat) : Int) := by omega
      have e2 : (m : Int) + 1 + 2 = ((m + 3 : Nat) : Int) := by omega
      have e3 : (m : Int) + 1 + 1 = ((m + 2 : Nat) : Int) := by omega
      have k1 : ((0 : Int) ≤ ((m + 2 : Nat) : Int)) = True := eq_true (Int.natCast_nonneg _)
      have k2 : (((m + 2 : Nat) : Int) ≤ (s.size : Int)) = True := eq_true (by omega)
      have k3 : ((m : Int) + 1 = 0) = False := eq_false (by omega)
      have w1 := wrap_small b1 b2
      have w2 := (wrap_small b3 b4).trans e1
      have w3 := (wrap_small b5 b6).trans e2
      have w4 := (wrap_small b7 b8).trans e3
      by_cases hend : s.size = m + 3 ∧ bt s ((m + 2 : Nat) : Int) = 39
      · refine ⟨((v : Int), 0, 0), tgo (Ev.bind hesc ?_), rgo2 (Ev.bind hrefe' ?_)⟩
        · simp only [escR, if_true, w1, w2, k1, k2, Int.toNat_natCast, if_pos (t39.2 hend)]
          exact Ev.now _
        · have k4 : ((s.size : Int) = ((m + 3 : Nat) : Int)) = True := eq_true (congrArg Nat.cast hend.1)
          have k5 : (((m + 2 : Nat) : Int) < (s.size : Int)) = True := eq_true (by rw [hend.1]; exact Int.ofNat_lt.2 (by omega))
          simp only [escQ, k3, w3, w4, k1, k4, k5, if_true, if_false, if_pos hend.2, show ¬ ((92 : Int) = 39) by decide, show ¬ ((92 : Int) = 10) by decide]
          exact Ev.now _
      · refine ⟨(0, 107, 0), tgo (Ev.bind hesc ?_), rgo2 (Ev.bind hrefe' ?_)⟩
        · simp only [escR, if_true, w1, w2, k1, k2, Int.toNat_natCast, if_neg (fun h => hend (t39.1 h))]
          exact Ev.now _
        · simp only [escQ, k3, w3, w4, k1, if_true, if_false, show ¬ ((92 : Int) = 39) by decide, show ¬ ((92 : Int) = 10) by decide]
          by_cases h5 : s.size = m + 3
          · have k4 : ((s.size : Int) = ((m + 3 : Nat) : Int)) = True := eq_true (congrArg Nat.cast h5)
            have k5 : (((m + 2 : Nat) : Int) < (s.size : Int)) = True := eq_true (by rw [h5]; exact Int.ofNat_lt.2 (by omega))
            simp only [k4, k5, if_true, if_neg (fun h => hend ⟨h5, h⟩)]
            exact Ev.now _
          · have k4 : ((s.size : Int) = ((m + 3 : Nat) : Int)) = False := eq_false (fun h => h5 (Int.ofNat.inj h))
            simp only [k4, if_false]
            exact Ev.now _
  · -- no backslash
    have rgo3 : ∀ {X}, Ev (fun k => (scholiastref02_Char.f k s 1).bind fun bt234 => (if bt234.2 = 0 then (some (0, 107, 0)) else (if (bt s 1) = 39 then (some (0, 107, 0)) else (if (bt s 1) = 10 then (some (0, 107, 0)) else (if (s.size : Int) = (wrap64 (bt234.2 + 2)) then (if 0 ≤ (wrap64 (bt234.2 + 1)) then (if (wrap64 (bt234.2 + 1)) < (s.size : Int) then (if (bt s (wrap64 (bt234.2 + 1))) = 39 then (some (bt234.1, 0, 0)) else (some (0, 107, 0))) else (none)) else (none)) else (some (0, 107, 0))))))) X → Ev (fun k => scholiastref02_Rune.f k s) X := by
      intro X hX
      refine rgo (Ev.step (fun k => ?_) hX)
      simp only [scholiastref02_Rune.j0, g1, h92, if_true, Bool.false_eq_true, if_false]
    by_cases hbad : bt s 1 = 39 ∨ bt s 1 = 10
    · refine ⟨(0, 107, 0), Ev.congr (fun k => ?_) tbad, rgo3 (Ev.bind hch ?_)⟩
      · simp only [token_Rune.f]
        rw [if_neg (by omega), if_pos (by omega), if_pos h39, if_pos (by omega)]
        rcases hbad with h | h
        · rw [if_pos h]
        · rw [if_neg (by omega), beq_iff_eq.2 h]
      · refine Ev.congr (fun k => ?_) (Ev.now _)
        split
        · rfl
        · rcases hbad with h | h
          · rw [if_pos h]
          · rw [if_neg (by omega), if_pos h]
    · have n39 : ¬ bt s 1 = 39 := fun h => hbad (Or.inl h)
      have n10 : ¬ bt s 1 = 10 := fun h => hbad (Or.inr h)
      generalize hD : Lib.decodeN (s.size - 1) (byteN s 1) (byteN s 2) (byteN s 3) (byteN s 4) = D at hdec hw
      have hcD : charOf (s.size - 1) (byteN s 1) (byteN s 2) (byteN s 3) (byteN s 4) = if D.1 = 65533 ∧ D.2 ≤ 1 then (0, 0) else D := by unfold charOf; rw [hD]
      rw [hcD] at hch
      obtain ⟨r, w⟩ := D
      simp only at hw hch
      obtain ⟨hw1, hw2, hw3⟩ := hw
      have hw3 := hw3 hl1
      have tgo : ∀ {X}, Ev (fun k => token_Rune.j1 k s (w : Int) (wrap64 (r : Int)) (decide (r = 65533 ∧ w ≤ 1))) X → Ev (fun k => token_Rune.f k s) X := by
        intro X hX
        refine Ev.congr (f := fun k => token_Rune.j0 k s false) (fun k => ?_) (Ev.step (fun k => ?_) hX)
        · simp only [token_Rune.f]
          rw [if_neg (by omega), if_pos (by omega), if_pos h39, if_pos (by omega), if_neg n39, beq_eq_false_iff_ne.2 n10]
        · simp only [token_Rune.j0, g1, g1', if_true, Bool.false_eq_true, if_false]
          have hdec' : utf8_DecodeRuneInString.f (s.extract ((1 : Int)).toNat s.size) = some ((r : Int), (w : Int)) := hdec
          first
            | rw [hdec']
            | rw [show utf8_DecodeRuneInString.f (s.extract 1 s.size) = some ((r : Int), (w : Int)) from hdec]
          simp only [Option.bind_some, h92, if_false]
          by_cases c1 : r = 65533
          · rw [if_pos (by omega)]
            congr 1
            exact decide_eq_decide.2 ⟨fun h => ⟨c1, by omega⟩, fun h => by omega⟩
          · rw [if_neg (by omega)]
            congr 1
            symm
            exact decide_eq_false (fun h => c1 h.1)
      by_cases hinv : r = 65533 ∧ w ≤ 1
      · rw [if_pos hinv] at hch
        refine ⟨(0, 107, 0), tgo ?_, rgo3 (Ev.bind hch ?_)⟩
        · rw [decide_eq_true hinv]
          refine Ev.step (f := fun _ => some (0, 107, 0)) (fun k => ?_) (Ev.now _)
          simp only [token_Rune.j1]
          rw [if_pos (by trivial)]
        · refine Ev.congr (fun k => ?_) (Ev.now _)
          exact if_pos rfl
      · rw [if_neg hinv] at hch
        have hwN : w ≤ s.size - 1 := by omega
        have t39 := tail39 s (w + 1) (by omega)
        have b0 : (-9223372036854775808 : Int) ≤ (r : Int) := by omega
        have b0' : (r : Int) < 9223372036854775808 := by omega
        have b1 : (-9223372036854775808 : Int) ≤ 1 + (w : Int) := by omega
        have b2 : 1 + (w : Int) < 9223372036854775808 := by omega
        have b3 : (-9223372036854775808 : Int) ≤ (w : Int) + 2 := by omega
        have b4 : (w : Int) + 2 < 9223372036854775808 := by omega
        have b5 : (-9223372036854775808 : Int) ≤ (w : Int) + 1 := by omega
        have b6 : (w : Int) + 1 < 9223372036854775808 := by omega
        have e1 : 1 + (w : Int) = ((w + 1 : Nat) : Int) := by omega
        have e2 : (w : Int) + 2 = ((w + 2 : Nat) : Int) := by omega
        have e3 : (w : Int) + 1 = ((w + 1 : Nat) : Int) := by omega
        have k0 : ((w : Int) = 0) = False := eq_false (by omega)
        have k1 : ((0 : Int) ≤ ((w + 1 : Nat) : Int)) = True := eq_true (Int.natCast_nonneg _)
        have k2 : (((w + 1 : Nat) : Int) ≤ (s.size : Int)) = True := eq_true (by omega)
        have w0 := wrap_small b0 b0'
        have w1 := (wrap_small b1 b2).trans e1
        have w2 := (wrap_small b3 b4).trans e2
        have w3 := (wrap_small b5 b6).trans e3
        rw [w0, decide_eq_false hinv] at tgo
        by_cases hend : s.size = w + 2 ∧ bt s ((w + 1 : Nat) : Int) = 39
        · refine ⟨((r : Int), 0, 0), tgo ?_, rgo3 (Ev.bind hch ?_)⟩
          · refine Ev.step (f := fun _ => some ((r : Int), 0, 0)) (fun k => ?_) (Ev.now _)
            simp only [token_Rune.j1, w1, k1, k2, Int.toNat_natCast, if_pos (t39.2 hend), if_true, Bool.false_eq_true, if_false]
          · have k4 : ((s.size : Int) = ((w + 2 : Nat) : Int)) = True := eq_true (congrArg Nat.cast hend.1)
            have k5 : (((w + 1 : Nat) : Int) < (s.size : Int)) = True := eq_true (by rw [hend.1]; exact Int.ofNat_lt.2 (by omega))
            simp only [castP, k0, w2, w3, k1, k4, k5, if_true, if_false, if_pos hend.2, n39, n10]
            exact Ev.now _
        · refine ⟨(0, 107, 0), tgo ?_, rgo3 (Ev.bind hch ?_)⟩
          · refine Ev.step (f := fun _ => some (0, 107, 0)) (fun k => ?_) (Ev.now _)
            simp only [token_Rune.j1, w1, k1, k2, Int.toNat_natCast, if_neg (fun h => hend (t39.1 h)), if_true, Bool.false_eq_true, if_false]
          · simp only [castP, k0, w2, w3, k1, if_true, if_false, n39, n10]
            by_cases h5 : s.size = w + 2
            · have k4 : ((s.size : Int) = ((w + 2 : Nat) : Int)) = True := eq_true (congrArg Nat.cast h5)
              have k5 : (((w + 1 : Nat) : Int) < (s.size : Int)) = True := eq_true (by rw [h5]; exact Int.ofNat_lt.2 (by omega))
              simp only [k4, k5, if_true, if_neg (fun h => hend ⟨h5, h⟩)]
              exact Ev.now _
            · have k4 : ((s.size : Int) = ((w + 2 : Nat) : Int)) = False := eq_false (fun h => h5 (Int.ofNat.inj h))
              simp only [k4, if_false]
              exact Ev.now _
end Go.Proofs.YtkpceagbjodbbaaDoor.Pure
/- The pure statement of TokenTexts. Own work. -/
namespace Go.Proofs.YtkpceagbjodbbaaDoor.Pure
open Go.RowKit Go.Proofs.YtkpceagbjodbbaaDoorW.PrintWords Go.Proofs.YtkpceagbjodbbaaDoor.PA Go.Proofs.YtkpceagbjodbbaaDoor.PB Go.Proofs.YtkpceagbjodbbaaDoor.Ext
theorem TokenTexts : scholiastlaw02_TokenTexts.Pure := by
  intro a0 hb
  have hs : Ev (fun k => scholiastlaw02_shown.f k) true := Ev.of (fun k => scholiastlaw02_shown.mono k) (k := 60) (by kernel_rfl)
  have h : Ev (fun k => scholiastlaw02_TokenTexts.f k a0) true := by
    unfold scholiastlaw02_TokenTexts.f
    refine Ev.bind hs ?_
    simp only [if_true]
    obtain ⟨r, h1, h2⟩ := unquote_both a0 (by omega)
    obtain ⟨q, h3, h4⟩ := rune_both a0 (by omega)
    refine Ev.bind h1 (Ev.bind h2 (Ev.bind h3 (Ev.bind h4 ?_)))
    simp only [if_true, beq_self_eq_true]
    exact Ev.now _
  exact h.rounds
end Go.Proofs.YtkpceagbjodbbaaDoor.Pure
