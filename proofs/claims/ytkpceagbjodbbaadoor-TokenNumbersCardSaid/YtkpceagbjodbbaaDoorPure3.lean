/- What token.Digits and its reference compute: one plain function. Own work. -/
import Derived.Test.YtkpceagbjodbbaaDoorPA1
import Derived.Test.YtkpceagbjodbbaaDoorPA13
import Derived.Test.YtkpceagbjodbbaaDoorPA14
import Derived.Test.YtkpceagbjodbbaaDoorPA4
import Derived.Test.YtkpceagbjodbbaaDoorPA5
import Derived.Test.YtkpceagbjodbbaaDoorPlain
import Derived.Test.YtkpceagbjodbbaaDoorPure1
import Derived.Test.YtkpceagbjodbbaaDoorPure2
import Derived.Test.YtkpceagbjodbbaaDoorX1
import Derived.KernelRfl
namespace Go.Proofs.YtkpceagbjodbbaaDoor.Pure
open Go.RowKit Go.Proofs.YtkpceagbjodbbaaDoorW.PrintWords Go.Proofs.YtkpceagbjodbbaaDoor.PA Go.Proofs.YtkpceagbjodbbaaDoor.Ext Go.Proofs.YtkpceagbjodbbaaDoor.Plain
set_option linter.unusedVariables false
set_option linter.unusedSimpArgs false

/-- A number's base, and its digits, of what stands behind its head. -/
def digFin (base : Int) (R : List UInt8) : Int × ByteArray × Bool :=
  match (if R = [] then none else rowGo base false R) with
  | some d => (base, ofL d, true)
  | none => (0, ofL [], false)
def headed (L : List UInt8) : Int × List UInt8 :=
  match L with
  | a :: c :: r => if a = 48 then (if c = 98 ∨ c = 66 then (2, trimU r) else if c = 111 ∨ c = 79 then (8, trimU r) else if c = 120 ∨ c = 88 then (16, trimU r) else (8, trimU (c :: r))) else (10, L)
  | _ => (10, L)
def digitsB (L : List UInt8) : Int × ByteArray × Bool := digFin (headed L).1 (headed L).2

theorem rowGo_some (base : Int) (hb : base ≤ 16) (R d : List UInt8) (h : rowGo base false R = some d) (hR : R ≠ []) : d ≠ [] := by
  rw [rowGo_is base hb] at h
  split at h
  · rename_i hc
    obtain ⟨_, _, _, h4⟩ := hc
    have h4 : headOk R = true := by simpa using h4
    cases R with
    | nil => exact absurd rfl hR
    | cons c r =>
      cases h
      have hc95 : (c != 95) = true := h4
      simp [List.filter_cons, hc95]
  · cases h
theorem ref_fin (base : Int) (hb : base ≤ 16) (R : List UInt8) : (if (rowOf base R).2 = true then some (base, (rowOf base R).1, true) else some (0, (⟨#[]⟩ : ByteArray), false)) = some (digFin base R) := by
  unfold rowOf digFin
  by_cases hR : R = []
  · subst hR
    simp [rowGo, rowEnd]
    rfl
  · rw [if_neg hR]
    cases h : rowGo base false R with
    | none => simp [rowEnd]; rfl
    | some d =>
      have hd := rowGo_some base hb R d h hR
      simp [rowEnd, hd]

/-! ### token's side -/
theorem dig_loop (x6 : ByteArray) (base : Int) (hx : x6.size ≤ 140737488355328) : ∀ (n i : Nat), x6.size - i = n → i ≤ x6.size →
    Ev (fun k => token_Digits.l0 k base x6 x6.size i) (if ((x6.data.toList.drop i).all fun c => decide (dT c.toNat < base)) = true then (base, x6, true) else (0, ofL [], false))
  | 0, i, hn, hi => by
    have : i = x6.size := by omega
    subst this
    have e : x6.data.toList.drop x6.size = [] := by rw [← len_eq, List.drop_length]
    rw [e]
    refine Ev.step (f := fun _ => some (base, x6, true)) (fun k => ?_) (by simpa using Ev.now _)
    simp only [token_Digits.l0]
    rw [if_neg (by omega)]
  | n + 1, i, hn, hi => by
    have hlt : i < x6.size := by omega
    have hlt' : i < x6.data.toList.length := by rw [len_eq]; exact hlt
    obtain ⟨c, hc⟩ : ∃ c, x6.data.toList.getD i 0 = c := ⟨_, rfl⟩
    have hbt : bt x6 i = (c.toNat : Int) := by rw [bt_getD, hc]
    have hdrop : x6.data.toList.drop i = c :: x6.data.toList.drop (i + 1) := by
      rw [List.drop_eq_getElem_cons hlt', ← hc, List.getD_eq_getElem?_getD, List.getElem?_eq_getElem hlt']
      rfl
    have hw : wrap64 ((i : Int) + 1) = ((i + 1 : Nat) : Int) := by rw [wrap_small (by omega) (by omega)]; omega
    refine Ev.step (f := fun k => (token_digit.f k (bt x6 i)).bind fun t => (if t ≥ base then (some (0, (⟨#[]⟩ : ByteArray), false)) else token_Digits.l0 k base x6 x6.size ((i + 1 : Nat) : Int))) (fun k => ?_) ?_
    · simp only [token_Digits.l0]
      rw [if_pos (by omega), if_pos (by omega), if_pos (by omega)]
      simp only [hw]
    rw [hbt]
    refine Ev.bind (digit_ev c) ?_
    rw [hdrop, List.all_cons]
    by_cases hd : base ≤ dT c.toNat
    · have : ¬ dT c.toNat < base := by omega
      simp only [ge_iff_le, hd, if_true, this, decide_false, Bool.false_and, Bool.false_eq_true, if_false]
      exact Ev.now _
    · have : dT c.toNat < base := by omega
      simp only [ge_iff_le, hd, if_false, this, decide_true, Bool.true_and]
      exact dig_loop x6 base hx n (i + 1) (by omega) (by omega)
theorem lastOk_last : ∀ (l : List UInt8), l ≠ [] → lastOk l = (l.getD (l.length - 1) 0 != 95)
  | [], h => absurd rfl h
  | [c], _ => rfl
  | c :: x :: l, _ => by
    have ih := lastOk_last (x :: l) (by simp)
    rw [show lastOk (c :: x :: l) = lastOk (x :: l) from rfl, ih]
    simp
theorem dig_j3 (x6 : ByteArray) (base : Int) (hb : base ≤ 16) (hx : x6.size < 4294967281) : Ev (fun k => token_Digits.j3 k base x6) (digFin base x6.data.toList) := by
  have hl := len_eq x6
  have bad : ∀ (h : (if x6.data.toList = [] then none else rowGo base false x6.data.toList) = none), Ev (fun k => token_Digits.j4 k base x6 true) (digFin base x6.data.toList) := by
    intro h
    refine Ev.step (f := fun _ => some (0, (⟨#[]⟩ : ByteArray), false)) (fun k => ?_) ?_
    · simp only [token_Digits.j4]
      rw [if_pos (by trivial)]
    · unfold digFin
      rw [h]
      exact Ev.now _
  by_cases h0 : x6.data.toList = []
  · refine Ev.step (fun k => ?_) (bad (by rw [if_pos h0]))
    simp only [token_Digits.j3]
    rw [toList_eq, if_pos h0]
  · have hpos : 0 < x6.size := by
      rcases Nat.eq_zero_or_pos x6.size with h | h
      · rw [h] at hl; exact absurd (List.eq_nil_of_length_eq_zero hl) h0
      · exact h
    have hgo := rowGo_is base hb x6.data.toList false
    obtain ⟨c, hc⟩ : ∃ c, x6.data.toList.getD 0 0 = c := ⟨_, rfl⟩
    have hbt : bt x6 0 = (c.toNat : Int) := by rw [show (0 : Int) = ((0 : Nat) : Int) from rfl, bt_getD, hc]
    obtain ⟨r, hr⟩ : ∃ r, x6.data.toList = c :: r := by
      cases hl : x6.data.toList with
      | nil => exact absurd hl h0
      | cons x r => rw [hl] at hc; simp at hc; exact ⟨r, by rw [hc]⟩
    have hh : headOk x6.data.toList = (c != 95) := by rw [hr]; rfl
    have c95 : (c.toNat : Int) = 95 ↔ c = 95 := byte_is c 95 (by decide)
    by_cases h1 : c = 95
    · refine Ev.step (fun k => ?_) (bad (by rw [if_neg h0, hgo, if_neg]; rintro ⟨_, _, _, h⟩; rw [hh, h1] at h; simp at h))
      simp only [token_Digits.j3]
      rw [toList_eq, if_neg h0, if_pos (by omega), hbt, if_pos (c95.2 h1)]
    · obtain ⟨z, hz⟩ : ∃ z, x6.data.toList.getD (x6.size - 1) 0 = z := ⟨_, rfl⟩
      have hwm : wrap64 ((x6.size : Int) - 1) = ((x6.size - 1 : Nat) : Int) := by rw [wrap_small (by omega) (by omega)]; omega
      have hbz : bt x6 ((x6.size - 1 : Nat) : Int) = (z.toNat : Int) := by rw [bt_getD, hz]
      have z95 : (z.toNat : Int) = 95 ↔ z = 95 := byte_is z 95 (by decide)
      have hlo : lastOk x6.data.toList = (z != 95) := by rw [lastOk_last _ h0, hl, hz]
      by_cases h2 : z = 95
      · refine Ev.step (fun k => ?_) (bad (by rw [if_neg h0, hgo, if_neg]; rintro ⟨h, _⟩; rw [hlo, h2] at h; simp at h))
        simp only [token_Digits.j3]
        rw [toList_eq, if_neg h0, if_pos (by omega), hbt, if_neg (fun h => h1 (c95.1 h)), hwm, if_pos (by omega), if_pos (by omega), hbz, if_pos (z95.2 h2)]
      · have hcon : strings_Contains.f x6 ⟨#[95, 95]⟩ = some (has2 x6.data.toList) := by
          unfold strings_Contains.f
          rw [if_pos hx, ← contains_two]
        by_cases h3 : has2 x6.data.toList = true
        · refine Ev.step (fun k => ?_) (bad (by rw [if_neg h0, hgo, if_neg]; rintro ⟨_, h, _⟩; rw [h3] at h; cases h))
          simp only [token_Digits.j3]
          rw [toList_eq, if_neg h0, if_pos (by omega), hbt, if_neg (fun h => h1 (c95.1 h)), hwm, if_pos (by omega), if_pos (by omega), hbz, if_neg (fun h => h2 (z95.1 h)), hcon, h3]
          rfl
        · have h3' := Bool.eq_false_iff.mpr h3
          have hrep : strings_ReplaceAll.f x6 ⟨#[95]⟩ ⟨#[]⟩ = some (ofL (x6.data.toList.filter (· != 95))) := by
            unfold strings_ReplaceAll.f
            rw [if_pos ⟨hx, by decide, by show x6.size + _ * 0 ≤ _; omega⟩]
            congr 1
            show _ = ofL _
            unfold ofL
            rw [← replaceAll_one]
          have hsz : (ofL (x6.data.toList.filter (· != 95))).size ≤ x6.size := by rw [ofL_size, ← hl]; exact List.length_filter_le _ _
          have hloop := dig_loop (ofL (x6.data.toList.filter (· != 95))) base (by omega) _ 0 rfl (by omega)
          refine Ev.step (f := fun k => token_Digits.j4 k base x6 false) (fun k => ?_) (Ev.step (f := fun k => token_Digits.l0 k base (ofL (x6.data.toList.filter (· != 95))) (ofL (x6.data.toList.filter (· != 95))).size 0) (fun k => ?_) ?_)
          · simp only [token_Digits.j3]
            rw [toList_eq, if_neg h0, if_pos (by omega), hbt, if_neg (fun h => h1 (c95.1 h)), hwm, if_pos (by omega), if_pos (by omega), hbz, if_neg (fun h => h2 (z95.1 h)), hcon, h3']
            rfl
          · simp only [token_Digits.j4]
            rw [if_neg (by decide), hrep]
            rfl
          · rw [List.drop_zero, ofL_list] at hloop
            have hfin : digFin base x6.data.toList = (if ((x6.data.toList.filter (· != 95)).all fun c => decide (dT c.toNat < base)) = true then (base, ofL (x6.data.toList.filter (· != 95)), true) else (0, ofL [], false)) := by
              unfold digFin
              rw [if_neg h0, hgo]
              have hdd : digitsOk base x6.data.toList = (x6.data.toList.filter (· != 95)).all fun c => decide (dT c.toNat < base) := by
                unfold digitsOk
                congr 1
                funext c
                rw [decide_eq_decide]
                exact (dT_dR _ base hb).symm
              rw [hlo, h3', hdd, hh]
              have g1 : (z != 95) = true := by simp [h2]
              have g2 : (c != 95) = true := by simp [h1]
              rw [g1, g2]
              by_cases g3 : ((x6.data.toList.filter (· != 95)).all fun c => decide (dT c.toNat < base)) = true
              · rw [if_pos g3, if_pos ⟨rfl, rfl, g3, Or.inr rfl⟩]
              · rw [if_neg g3, if_neg (fun h => g3 h.2.2.1)]
            rw [hfin]
            exact hloop

theorem trimPrefix_is (s : ByteArray) : strings_TrimPrefix.f s ⟨#[95]⟩ = some (ofL (trimU s.data.toList)) := by
  unfold strings_TrimPrefix.f stringslite_TrimPrefix.f
  rw [prefix_is]
  simp only [Option.bind_some]
  cases hl : s.data.toList with
  | nil =>
    rw [if_neg (by simp [List.isPrefixOf])]
    simp only [Option.bind_some, trimU]
    rw [← eq_ofL hl]
  | cons c r =>
    rw [isPrefixOf_one]
    have hsz := len_eq s
    rw [hl] at hsz
    simp only [List.length_cons] at hsz
    by_cases h : c = 95
    · subst h
      have hx : (s.extract 1 s.size).data.toList = r := by
        rw [ext_list, hl]
        simp
        rw [List.take_of_length_le (by omega)]
      rw [if_pos (by decide), if_pos (by decide), if_pos (by show ((1 : Nat) : Int) ≤ _; omega)]
      simp only [Option.bind_some, trimU, if_true]
      congr 1
      exact eq_ofL hx
    · rw [if_neg (by simp; exact fun h2 => h h2.symm)]
      simp only [Option.bind_some, trimU, if_neg h]
      rw [← eq_ofL hl]

/-- A text of two bytes at least. -/
theorem two_bytes (s : ByteArray) (h : 1 < s.size) : ∃ a c r, s.data.toList = a :: c :: r ∧ bt s 0 = (a.toNat : Int) ∧ bt s 1 = (c.toNat : Int) ∧ (s.extract 1 s.size).data.toList = c :: r ∧ (s.extract 2 s.size).data.toList = r := by
  have hl := len_eq s
  cases h1 : s.data.toList with
  | nil => rw [h1] at hl; simp at hl; omega
  | cons a t =>
    cases t with
    | nil => rw [h1] at hl; simp at hl; omega
    | cons c r =>
      rw [h1] at hl
      simp only [List.length_cons] at hl
      refine ⟨a, c, r, rfl, ?_, ?_, ?_, ?_⟩
      · rw [show (0 : Int) = ((0 : Nat) : Int) from rfl, bt_getD, h1]; rfl
      · rw [show (1 : Int) = ((1 : Nat) : Int) from rfl, bt_getD, h1]; rfl
      · rw [ext_list, h1]
        simp
        rw [List.take_of_length_le (by simp; omega)]
      · rw [ext_list, h1]
        simp
        rw [List.take_of_length_le (by omega)]
theorem digits_is (a0 : ByteArray) (hx : a0.size < 4294967281) : Ev (fun k => token_Digits.f k a0) (digitsB a0.data.toList) := by
  have plain : (headed a0.data.toList) = (10, a0.data.toList) → Ev (fun k => token_Digits.j0 k a0 10 a0 false) (digitsB a0.data.toList) := by
    intro h
    unfold digitsB
    rw [h]
    refine Ev.step (fun k => ?_) (dig_j3 a0 10 (by decide) hx)
    simp only [token_Digits.j0]
    rw [if_neg (by decide)]
  by_cases h1 : (a0.size : Int) > 1
  · obtain ⟨a, c, r, hL, hb0, hb1, hx1, hx2⟩ := two_bytes a0 (by omega)
    have a48 : (a.toNat : Int) = 48 ↔ a = 48 := byte_is a 48 (by decide)
    have c98 : (c.toNat : Int) = 98 ↔ c = 98 := byte_is c 98 (by decide)
    have c66 : (c.toNat : Int) = 66 ↔ c = 66 := byte_is c 66 (by decide)
    have c111 : (c.toNat : Int) = 111 ↔ c = 111 := byte_is c 111 (by decide)
    have c79 : (c.toNat : Int) = 79 ↔ c = 79 := byte_is c 79 (by decide)
    have c120 : (c.toNat : Int) = 120 ↔ c = 120 := byte_is c 120 (by decide)
    have c88 : (c.toNat : Int) = 88 ↔ c = 88 := byte_is c 88 (by decide)
    by_cases h48 : a = 48
    · have s2 : (a0.extract 2 a0.size).size ≤ a0.size := by rw [ByteArray.size_extract]; omega
      have s1 : (a0.extract 1 a0.size).size ≤ a0.size := by rw [ByteArray.size_extract]; omega
      have t2 := trimPrefix_is (a0.extract 2 a0.size)
      rw [hx2] at t2
      have t1 := trimPrefix_is (a0.extract 1 a0.size)
      rw [hx1] at t1
      have sz : ∀ l : List UInt8, l.length ≤ a0.size → (ofL (trimU l)).size < 4294967281 := by
        intro l hl
        rw [ofL_size]
        have : (trimU l).length ≤ l.length := by cases l with | nil => simp [trimU] | cons x l => simp only [trimU]; split <;> simp
        omega
      have lr : r.length ≤ a0.size := by rw [← hx2, len_eq]; exact s2
      have lcr : (c :: r).length ≤ a0.size := by rw [← hx1, len_eq]; exact s1
      have i2 := fun base hb => dig_j3 (ofL (trimU r)) base hb (sz r lr)
      have i1 := fun base hb => dig_j3 (ofL (trimU (c :: r))) base hb (sz (c :: r) lcr)
      simp only [ofL_list] at i1 i2
      have fin : Ev (fun k => token_Digits.j0 k a0 10 a0 true) (digitsB a0.data.toList) := by
        unfold digitsB
        rw [hL]
        unfold headed
        simp only [h48, if_true]
        by_cases g1 : c = 98 ∨ c = 66
        · simp only [if_pos g1]
          refine Ev.step (f := fun k => token_Digits.j1 k a0 8 (a0.extract 1 a0.size) c.toNat true) (fun k => ?_) (Ev.step (fun k => ?_) (i2 2 (by decide)))
          · simp only [token_Digits.j0]
            rw [if_pos (by trivial), if_pos (by omega), if_pos (by omega), hb1]
            rcases g1 with g | g
            · rw [if_pos (c98.2 g), (beq_iff_eq.2 (c98.2 g))]
            · rw [if_neg (fun h => by have := c98.1 h; rw [g] at this; exact absurd this (by decide)), (beq_iff_eq.2 (c66.2 g))]
          · simp only [token_Digits.j1]
            rw [if_pos (by trivial), if_pos (by omega), t2, Option.bind_some]
        · simp only [if_neg g1]
          have n98 : ¬ (c.toNat : Int) = 98 := fun h => g1 (Or.inl (c98.1 h))
          have n66 : ((c.toNat : Int) == 66) = false := beq_eq_false_iff_ne.2 (fun h => g1 (Or.inr (c66.1 h)))
          have step0 : ∀ {X}, Ev (fun k => token_Digits.j1 k a0 8 (a0.extract 1 a0.size) c.toNat false) X → Ev (fun k => token_Digits.j0 k a0 10 a0 true) X := by
            intro X hX
            refine Ev.step (fun k => ?_) hX
            simp only [token_Digits.j0]
            rw [if_pos (by trivial), if_pos (by omega), if_pos (by omega), hb1, if_neg n98, n66]
          refine step0 ?_
          by_cases g2 : c = 111 ∨ c = 79
          · simp only [if_pos g2]
            refine Ev.step (f := fun k => token_Digits.j2 k a0 8 (a0.extract 1 a0.size) c.toNat true) (fun k => ?_) (Ev.step (fun k => ?_) (i2 8 (by decide)))
            · simp only [token_Digits.j1]
              rw [if_neg (by decide)]
              rcases g2 with g | g
              · rw [if_pos (c111.2 g), (beq_iff_eq.2 (c111.2 g))]
              · rw [if_neg (fun h => by have := c111.1 h; rw [g] at this; exact absurd this (by decide)), (beq_iff_eq.2 (c79.2 g))]
            · simp only [token_Digits.j2]
              rw [if_pos (by trivial), if_pos (by omega), t2, Option.bind_some]
          · simp only [if_neg g2]
            have n111 : ¬ (c.toNat : Int) = 111 := fun h => g2 (Or.inl (c111.1 h))
            have n79 : ((c.toNat : Int) == 79) = false := beq_eq_false_iff_ne.2 (fun h => g2 (Or.inr (c79.1 h)))
            have step1 : ∀ {X}, Ev (fun k => token_Digits.j2 k a0 8 (a0.extract 1 a0.size) c.toNat false) X → Ev (fun k => token_Digits.j1 k a0 8 (a0.extract 1 a0.size) c.toNat false) X := by
              intro X hX
              refine Ev.step (fun k => ?_) hX
              simp only [token_Digits.j1]
              rw [if_neg (by decide), if_neg n111, n79]
            refine step1 ?_
            by_cases g3 : c = 120 ∨ c = 88
            · simp only [if_pos g3]
              refine Ev.step (fun k => ?_) (i2 16 (by decide))
              simp only [token_Digits.j2]
              rw [if_neg (by decide)]
              rcases g3 with g | g
              · rw [if_pos (c120.2 g), if_pos (by omega), t2, Option.bind_some]
              · rw [if_neg (fun h => by have := c120.1 h; rw [g] at this; exact absurd this (by decide)), if_pos (c88.2 g), if_pos (by omega), t2, Option.bind_some]
            · simp only [if_neg g3]
              refine Ev.step (fun k => ?_) (i1 8 (by decide))
              simp only [token_Digits.j2]
              rw [if_neg (by decide), if_neg (fun h => g3 (Or.inl (c120.1 h))), if_neg (fun h => g3 (Or.inr (c88.1 h))), t1, Option.bind_some]
      refine Ev.congr (fun k => ?_) fin
      simp only [token_Digits.f]
      rw [if_pos h1, if_pos (by omega), hb0, (beq_iff_eq.2 (a48.2 h48))]
    · refine Ev.congr (fun k => ?_) (plain (by rw [hL]; unfold headed; simp only [if_neg h48]))
      simp only [token_Digits.f]
      rw [if_pos h1, if_pos (by omega), hb0, (beq_eq_false_iff_ne.2 (fun h => h48 (a48.1 h)))]
  · refine Ev.congr (fun k => ?_) (plain ?_)
    · simp only [token_Digits.f]
      rw [if_neg h1]
    · have hl := len_eq a0
      cases hL : a0.data.toList with
      | nil => rfl
      | cons x t =>
        cases t with
        | nil => rfl
        | cons y t => rw [hL] at hl; simp at hl; omega

/-! ### the reference's side -/
theorem ref_part (X : ByteArray) (base : Int) (ahead : Bool) (hb : base ≤ 16) (hx : X.size ≤ 140737488355328) (R : List UInt8) (hR : (if ahead = true then trimU X.data.toList else X.data.toList) = R) :
    Ev (fun k => (scholiastref02_row.f k X base ahead).bind fun b => (if b.2 = true then (some (base, b.1, true)) else (some (0, (⟨#[]⟩ : ByteArray), false)))) (digFin base R) := by
  have h := row_is X base ahead hb hx
  rw [hR] at h
  refine Ev.bind h ?_
  rw [ref_fin base hb R]
  exact Ev.now _
theorem ref_digits_is (a0 : ByteArray) (hx : a0.size < 4294967281) : Ev (fun k => scholiastref02_Digits.f k a0) (digitsB a0.data.toList) := by
  by_cases hz : a0.data.toList = [48]
  · have e : digitsB [48] = (10, ⟨#[48]⟩, true) := by decide +kernel
    rw [hz, e]
    refine Ev.congr (fun k => ?_) (Ev.now _)
    simp only [scholiastref02_Digits.f]
    rw [toList_eq, if_pos hz]
  have ext0 : a0.extract 0 a0.size = a0 := by simp
  have plain : (headed a0.data.toList) = (10, a0.data.toList) → Ev (fun k => scholiastref02_Digits.j0 k a0 10 0 false) (digitsB a0.data.toList) := by
    intro h
    unfold digitsB
    rw [h]
    refine Ev.step (fun k => ?_) (ref_part a0 10 false (by decide) (by omega) _ rfl)
    simp only [scholiastref02_Digits.j0]
    rw [if_neg (by decide), if_pos (by decide), if_pos (by omega)]
    simp only [Int.toNat_zero, ext0]
    rfl
  by_cases h1 : (a0.size : Int) > 1
  · obtain ⟨a, c, r, hL, hb0, hb1, hx1, hx2⟩ := two_bytes a0 (by omega)
    have a48 : (a.toNat : Int) = 48 ↔ a = 48 := byte_is a 48 (by decide)
    have c98 : (c.toNat : Int) = 98 ↔ c = 98 := byte_is c 98 (by decide)
    have c66 : (c.toNat : Int) = 66 ↔ c = 66 := byte_is c 66 (by decide)
    have c111 : (c.toNat : Int) = 111 ↔ c = 111 := byte_is c 111 (by decide)
    have c79 : (c.toNat : Int) = 79 ↔ c = 79 := byte_is c 79 (by decide)
    have c120 : (c.toNat : Int) = 120 ↔ c = 120 := byte_is c 120 (by decide)
    have c88 : (c.toNat : Int) = 88 ↔ c = 88 := byte_is c 88 (by decide)
    by_cases h48 : a = 48
    · have s2 : (a0.extract 2 a0.size).size ≤ a0.size := by rw [ByteArray.size_extract]; omega
      have s1 : (a0.extract 1 a0.size).size ≤ a0.size := by rw [ByteArray.size_extract]; omega
      have i2 := fun base hb => ref_part (a0.extract 2 a0.size) base true hb (by omega) (trimU r) (by rw [if_pos rfl, hx2])
      have i1 := fun base hb => ref_part (a0.extract 1 a0.size) base true hb (by omega) (trimU (c :: r)) (by rw [if_pos rfl, hx1])
      have d1 : decide ((1 : Int) > 0) = true := by decide
      have d2 : decide ((2 : Int) > 0) = true := by decide
      have fin : Ev (fun k => scholiastref02_Digits.j0 k a0 10 0 true) (digitsB a0.data.toList) := by
        unfold digitsB
        rw [hL]
        unfold headed
        simp only [h48, if_true]
        by_cases g1 : c = 98 ∨ c = 66
        · simp only [if_pos g1]
          refine Ev.step (f := fun k => scholiastref02_Digits.j1 k a0 8 1 c.toNat true) (fun k => ?_) (Ev.step (fun k => ?_) (i2 2 (by decide)))
          · simp only [scholiastref02_Digits.j0]
            rw [if_pos (by trivial), if_pos (by omega), hb1]
            rcases g1 with g | g
            · rw [if_pos (c98.2 g), (beq_iff_eq.2 (c98.2 g))]
            · rw [if_neg (fun h => by have := c98.1 h; rw [g] at this; exact absurd this (by decide)), (beq_iff_eq.2 (c66.2 g))]
          · simp only [scholiastref02_Digits.j1]
            rw [if_pos (by trivial), if_pos (by omega), d2]
        · simp only [if_neg g1]
          have n98 : ¬ (c.toNat : Int) = 98 := fun h => g1 (Or.inl (c98.1 h))
          have n66 : ((c.toNat : Int) == 66) = false := beq_eq_false_iff_ne.2 (fun h => g1 (Or.inr (c66.1 h)))
          have step0 : ∀ {X}, Ev (fun k => scholiastref02_Digits.j1 k a0 8 1 c.toNat false) X → Ev (fun k => scholiastref02_Digits.j0 k a0 10 0 true) X := by
            intro X hX
            refine Ev.step (fun k => ?_) hX
            simp only [scholiastref02_Digits.j0]
            rw [if_pos (by trivial), if_pos (by omega), hb1, if_neg n98, n66]
          refine step0 ?_
          by_cases g2 : c = 111 ∨ c = 79
          · simp only [if_pos g2]
            refine Ev.step (f := fun k => scholiastref02_Digits.j2 k a0 8 1 c.toNat true) (fun k => ?_) (Ev.step (fun k => ?_) (i2 8 (by decide)))
            · simp only [scholiastref02_Digits.j1]
              rw [if_neg (by decide)]
              rcases g2 with g | g
              · rw [if_pos (c111.2 g), (beq_iff_eq.2 (c111.2 g))]
              · rw [if_neg (fun h => by have := c111.1 h; rw [g] at this; exact absurd this (by decide)), (beq_iff_eq.2 (c79.2 g))]
            · simp only [scholiastref02_Digits.j2]
              rw [if_pos (by trivial), if_pos (by omega), d2]
          · simp only [if_neg g2]
            have n111 : ¬ (c.toNat : Int) = 111 := fun h => g2 (Or.inl (c111.1 h))
            have n79 : ((c.toNat : Int) == 79) = false := beq_eq_false_iff_ne.2 (fun h => g2 (Or.inr (c79.1 h)))
            have step1 : ∀ {X}, Ev (fun k => scholiastref02_Digits.j2 k a0 8 1 c.toNat false) X → Ev (fun k => scholiastref02_Digits.j1 k a0 8 1 c.toNat false) X := by
              intro X hX
              refine Ev.step (fun k => ?_) hX
              simp only [scholiastref02_Digits.j1]
              rw [if_neg (by decide), if_neg n111, n79]
            refine step1 ?_
            by_cases g3 : c = 120 ∨ c = 88
            · simp only [if_pos g3]
              refine Ev.step (f := fun k => scholiastref02_Digits.j3 k a0 8 1 true) (fun k => ?_) (Ev.step (fun k => ?_) (i2 16 (by decide)))
              · simp only [scholiastref02_Digits.j2]
                rw [if_neg (by decide)]
                rcases g3 with g | g
                · rw [if_pos (c120.2 g), (beq_iff_eq.2 (c120.2 g))]
                · rw [if_neg (fun h => by have := c120.1 h; rw [g] at this; exact absurd this (by decide)), (beq_iff_eq.2 (c88.2 g))]
              · simp only [scholiastref02_Digits.j3]
                rw [if_pos (by trivial), if_pos (by omega), d2]
            · simp only [if_neg g3]
              have n120 : ¬ (c.toNat : Int) = 120 := fun h => g3 (Or.inl (c120.1 h))
              have n88 : ((c.toNat : Int) == 88) = false := beq_eq_false_iff_ne.2 (fun h => g3 (Or.inr (c88.1 h)))
              refine Ev.step (f := fun k => scholiastref02_Digits.j3 k a0 8 1 false) (fun k => ?_) (Ev.step (fun k => ?_) (i1 8 (by decide)))
              · simp only [scholiastref02_Digits.j2]
                rw [if_neg (by decide), if_neg n120, n88]
              · simp only [scholiastref02_Digits.j3]
                rw [if_neg (by decide), if_pos (by decide), if_pos (by omega), d1]
                rfl
      refine Ev.congr (fun k => ?_) fin
      simp only [scholiastref02_Digits.f]
      rw [toList_eq, if_neg hz, if_pos h1, if_pos (by omega), hb0, (beq_iff_eq.2 (a48.2 h48))]
    · refine Ev.congr (fun k => ?_) (plain (by rw [hL]; unfold headed; simp only [if_neg h48]))
      simp only [scholiastref02_Digits.f]
      rw [toList_eq, if_neg hz, if_pos h1, if_pos (by omega), hb0, (beq_eq_false_iff_ne.2 (fun h => h48 (a48.1 h)))]
  · refine Ev.congr (fun k => ?_) (plain ?_)
    · simp only [scholiastref02_Digits.f]
      rw [toList_eq, if_neg hz, if_neg h1]
    · have hl := len_eq a0
      cases hL : a0.data.toList with
      | nil => rfl
      | cons x t =>
        cases t with
        | nil => rfl
        | cons y t => rw [hL] at hl; simp at hl; omega
end Go.Proofs.YtkpceagbjodbbaaDoor.Pure
