/- What the printed functions of token and its reference compute: numbers. Own work. -/
import Derived.Test.YtkpceagbjodbbaaDoorPA1
import Derived.Test.YtkpceagbjodbbaaDoorPA12
import Derived.Test.YtkpceagbjodbbaaDoorPA13
import Derived.Test.YtkpceagbjodbbaaDoorPlain
import Derived.Test.YtkpceagbjodbbaaDoorPure1
import Derived.KernelRfl
namespace Go.Proofs.YtkpceagbjodbbaaDoor.Pure
open Go.RowKit Go.Proofs.YtkpceagbjodbbaaDoorW.PrintWords Go.Proofs.YtkpceagbjodbbaaDoor.PA Go.Proofs.YtkpceagbjodbbaaDoor.Ext Go.Proofs.YtkpceagbjodbbaaDoor.Plain
set_option linter.unusedVariables false
set_option linter.unusedSimpArgs false

def ofL (l : List UInt8) : ByteArray := ⟨l.toArray⟩
theorem ofL_list (l : List UInt8) : (ofL l).data.toList = l := by simp [ofL]
theorem eq_ofL {s : ByteArray} {l : List UInt8} (h : s.data.toList = l) : s = ofL l := by
  subst h
  simp [ofL]
theorem ofL_size (l : List UInt8) : (ofL l).size = l.length := by rw [← len_eq, ofL_list]
theorem append_list (a b : ByteArray) : (a ++ b).data.toList = a.data.toList ++ b.data.toList := by simp [ByteArray.data_append]
theorem byte_is (c : UInt8) (n : Nat) (h : n < 256) : (c.toNat : Int) = n ↔ c = UInt8.ofNat n := by
  constructor
  · intro e
    apply UInt8.toNat_inj.1
    rw [UInt8.toNat_ofNat_of_lt' h]
    omega
  · rintro rfl
    rw [UInt8.toNat_ofNat_of_lt' h]
theorem byte_lt (c : UInt8) : c.toNat < 256 := UInt8.toNat_lt c

theorem digit_is (c : Int) (h0 : 0 ≤ c) (h1 : c ≤ 255) : token_digit.f 3 c = some (dT c) := by
  simp only [token_digit.f, token_digit.j0, token_digit.j1, decide_eq_true_eq, Bool.false_eq_true, if_false]
  unfold dT
  repeat' split
  all_goals first | rfl | omega | (congr 1; omega) | (exfalso; omega)
theorem ref_digit_is (c : Int) (h0 : 0 ≤ c) (h1 : c ≤ 255) : scholiastref02_Digit.f 3 c = some (dR c) := by
  simp only [scholiastref02_Digit.f, scholiastref02_Digit.j0, scholiastref02_Digit.j1, decide_eq_true_eq, Bool.false_eq_true, if_false]
  unfold dR
  repeat' split
  all_goals first | rfl | omega | (congr 1; omega) | (exfalso; omega)
theorem digit_ev (c : UInt8) : Ev (fun k => token_digit.f k c.toNat) (dT c.toNat) := Ev.of (fun k => token_digit.mono _ k) (digit_is _ (by omega) (by have := byte_lt c; omega))
theorem ref_digit_ev (c : UInt8) : Ev (fun k => scholiastref02_Digit.f k c.toNat) (dR c.toNat) := Ev.of (fun k => scholiastref02_Digit.mono _ k) (ref_digit_is _ (by omega) (by have := byte_lt c; omega))

/-! ### row -/
def rowEnd (acc : List UInt8) : Option (List UInt8) → ByteArray × Bool
  | some d => (ofL (acc ++ d), (acc ++ d) != [])
  | none => (ofL [], false)
theorem row_loop (x0 : ByteArray) (base : Int) (hb : base ≤ 16) (hx : x0.size ≤ 140737488355328) : ∀ (n i : Nat) (x8 : ByteArray), x0.size - i = n → i ≤ x0.size → x8.size ≤ i →
    Ev (fun k => scholiastref02_row.l0 k x0 base x8 i) (rowEnd x8.data.toList (rowGo base (decide (0 < i) && x0.data.toList.getD (i - 1) 0 != 95) (x0.data.toList.drop i)))
  | 0, i, x8, hn, hi, h8 => by
    have : i = x0.size := by omega
    subst this
    have e : x0.data.toList.drop x0.size = [] := by rw [← len_eq, List.drop_length]
    rw [e]
    refine Ev.step (f := fun _ => some (x8, (x8.toList != ([] : List UInt8)))) (fun k => ?_) ?_
    · simp only [scholiastref02_row.l0]
      rw [if_neg (by omega)]
    · refine Ev.congr (fun k => ?_) (Ev.now _)
      simp only [rowGo, rowEnd, List.append_nil]
      rw [toList_eq, ← eq_ofL rfl]
  | n + 1, i, x8, hn, hi, h8 => by
    have hlt : i < x0.size := by omega
    have hlt' : i < x0.data.toList.length := by rw [len_eq]; exact hlt
    obtain ⟨c, hc⟩ : ∃ c, x0.data.toList.getD i 0 = c := ⟨_, rfl⟩
    have hbt : bt x0 i = (c.toNat : Int) := by rw [bt_getD, hc]
    have hdrop : x0.data.toList.drop i = c :: x0.data.toList.drop (i + 1) := by
      rw [List.drop_eq_getElem_cons hlt', ← hc, List.getD_eq_getElem?_getD, List.getElem?_eq_getElem hlt']
      rfl
    have hw : wrap64 ((i : Int) + 1) = ((i + 1 : Nat) : Int) := by rw [wrap_small (by omega) (by omega)]; omega
    have c95 : bt x0 i = 95 ↔ c = 95 := by rw [hbt]; exact byte_is c 95 (by decide)
    have hrest : x0.data.toList.drop (i + 1) ≠ [] ↔ ((i + 1 : Nat) : Int) < (x0.size : Int) := by
      rw [Ne, List.drop_eq_nil_iff, len_eq]
      omega
    obtain ⟨pv, hpv⟩ : ∃ pv, x0.data.toList.getD (i - 1) 0 = pv := ⟨_, rfl⟩
    rw [hpv]
    -- the digit's way
    have way : ¬ c = 95 ∨ (decide (0 < i) && pv != 95) = false ∨ ¬ ((i + 1 : Nat) : Int) < (x0.size : Int) →
        Ev (fun k => scholiastref02_row.j3 k x0 base x8 i false) (rowEnd x8.data.toList (rowGo base (decide (0 < i) && pv != 95) (x0.data.toList.drop i))) := by
      intro hway
      rw [hdrop, rowGo]
      rw [if_neg (by
        rintro ⟨h1, h2, h3⟩
        rcases hway with h | h | h
        · exact h h1
        · rw [h] at h2; cases h2
        · exact h (hrest.1 h3))]
      have he : (x0.extract i (i + 1)).data.toList = [c] := by rw [ext_list, hdrop]; simp
      have hes : (x0.extract i (i + 1)).size = 1 := by rw [← len_eq, he]; rfl
      have hna : (x8 ++ x0.extract i (i + 1)).data.toList = x8.data.toList ++ [c] := by rw [append_list, he]
      have hns : (x8 ++ x0.extract i (i + 1)).size = x8.size + 1 := by rw [← len_eq, hna, List.length_append, len_eq]; rfl
      have g1 : ((i : Int) ≤ ((i + 1 : Nat) : Int)) = True := eq_true (by omega)
      have g2 : (((i + 1 : Nat) : Int) ≤ (x0.size : Int)) = True := eq_true (by omega)
      have g3 : (x8.size + (x0.extract i (i + 1)).size ≤ 9223372036854775807) = True := eq_true (by omega)
      have g4 : ((0 : Int) ≤ (i : Int)) = True := eq_true (by omega)
      have g5 : ((i : Int) < (x0.size : Int)) = True := eq_true (by omega)
      refine Ev.step (f := fun k => (scholiastref02_Digit.f k (bt x0 i)).bind fun t => (if t ≥ base then (some ((⟨#[]⟩ : ByteArray), false)) else scholiastref02_row.l0 k x0 base (x8 ++ x0.extract i (i + 1)) ((i + 1 : Nat) : Int))) (fun k => ?_) ?_
      · simp only [scholiastref02_row.j3, hw, Int.toNat_natCast, g1, g2, g3, g4, g5, if_true, Bool.false_eq_true, if_false]
      rw [hbt]
      refine Ev.bind (ref_digit_ev c) ?_
      by_cases hd : base ≤ dR c.toNat
      · simp only [ge_iff_le, hd, if_true]
        exact Ev.now _
      · simp only [ge_iff_le, hd, if_false]
        have ih := row_loop x0 base hb hx n (i + 1) (x8 ++ x0.extract i (i + 1)) (by omega) (by omega) (by omega)
        have hpd : (decide (0 < i + 1) && x0.data.toList.getD (i + 1 - 1) 0 != 95) = true := by
          rw [show i + 1 - 1 = i by omega, hc]
          have : c ≠ 95 := by
            rintro rfl
            simp [dR] at hd
            omega
          simp [this]
        rw [hpd, hna] at ih
        have hend : rowEnd x8.data.toList ((rowGo base true (x0.data.toList.drop (i + 1))).map (c :: ·)) = rowEnd (x8.data.toList ++ [c]) (rowGo base true (x0.data.toList.drop (i + 1))) := by
          cases rowGo base true (x0.data.toList.drop (i + 1)) with
          | none => rfl
          | some d => simp [rowEnd]
        rw [hend]
        exact ih
    by_cases h95 : c = 95
    · by_cases hpos : 0 < i
      · have hwm : wrap64 ((i : Int) - 1) = ((i - 1 : Nat) : Int) := by rw [wrap_small (by omega) (by omega)]; omega
        have p95 : bt x0 ((i - 1 : Nat) : Int) = 95 ↔ pv = 95 := by rw [bt_getD, hpv]; exact byte_is _ 95 (by decide)
        by_cases hp : pv = 95
        · refine Ev.step (fun k => ?_) (way (Or.inr (Or.inl (by simp [hp]))))
          simp only [scholiastref02_row.l0]
          rw [if_pos (by omega), if_pos (by omega), if_pos (c95.2 h95), if_pos (by omega), hwm, if_pos (by omega), if_pos (by omega), if_pos (p95.2 hp)]
        · by_cases hl : ((i + 1 : Nat) : Int) < (x0.size : Int)
          · have ih := row_loop x0 base hb hx n (i + 1) x8 (by omega) (by omega) (by omega)
            have hpd : (decide (0 < i + 1) && x0.data.toList.getD (i + 1 - 1) 0 != 95) = false := by
              rw [show i + 1 - 1 = i by omega, hc, h95]
              simp
            rw [hpd] at ih
            have hgo : rowGo base (decide (0 < i) && pv != 95) (x0.data.toList.drop i) = rowGo base false (x0.data.toList.drop (i + 1)) := by
              rw [hdrop, rowGo, if_pos ⟨h95, by simp [hpos, hp], hrest.2 hl⟩]
            rw [hgo]
            refine Ev.step (f := fun k => scholiastref02_row.j3 k x0 base x8 i true) (fun k => ?_) (Ev.step (fun k => ?_) ih)
            · simp only [scholiastref02_row.l0]
              rw [if_pos (by omega), if_pos (by omega), if_pos (c95.2 h95), if_pos (by omega), hwm, if_pos (by omega), if_pos (by omega), if_neg (fun h => hp (p95.1 h)), hw, decide_eq_true hl]
            · simp only [scholiastref02_row.j3]
              rw [if_pos (by trivial), hw]
          · refine Ev.step (fun k => ?_) (way (Or.inr (Or.inr hl)))
            simp only [scholiastref02_row.l0]
            rw [if_pos (by omega), if_pos (by omega), if_pos (c95.2 h95), if_pos (by omega), hwm, if_pos (by omega), if_pos (by omega), if_neg (fun h => hp (p95.1 h)), hw, decide_eq_false hl]
      · refine Ev.step (fun k => ?_) (way (Or.inr (Or.inl (by simp [hpos]))))
        simp only [scholiastref02_row.l0]
        rw [if_pos (by omega), if_pos (by omega), if_pos (c95.2 h95), if_neg (by omega)]
    · refine Ev.step (fun k => ?_) (way (Or.inl h95))
      simp only [scholiastref02_row.l0]
      rw [if_pos (by omega), if_pos (by omega), if_neg (fun h => h95 (c95.1 h))]

/-- A text without one _ ahead. -/
def trimU : List UInt8 → List UInt8
  | [] => []
  | c :: r => if c = 95 then r else c :: r
def rowOf (base : Int) (R : List UInt8) : ByteArray × Bool := rowEnd [] (rowGo base false R)
theorem row_plain (a0 : ByteArray) (base : Int) (hb : base ≤ 16) (hx : a0.size ≤ 140737488355328) : Ev (fun k => scholiastref02_row.j0 k a0 base false) (rowOf base a0.data.toList) := by
  have h := row_loop a0 base hb hx a0.size 0 (⟨#[]⟩ : ByteArray) (by omega) (by omega) (by decide)
  refine Ev.step (f := fun k => scholiastref02_row.j1 k a0 base) (fun k => ?_) (Ev.step (fun k => ?_) h)
  · simp only [scholiastref02_row.j0]
    rw [if_neg (by decide)]
  · simp only [scholiastref02_row.j1]
    rfl
theorem row_is (a0 : ByteArray) (base : Int) (ahead : Bool) (hb : base ≤ 16) (hx : a0.size ≤ 140737488355328) : Ev (fun k => scholiastref02_row.f k a0 base ahead) (rowOf base (if ahead = true then trimU a0.data.toList else a0.data.toList)) := by
  have hp := row_plain a0 base hb hx
  cases ahead with
  | false =>
    refine Ev.congr (fun k => ?_) hp
    simp only [scholiastref02_row.f]
    rw [if_neg (by decide)]
  | true =>
    rw [if_pos (by trivial)]
    by_cases h0 : (a0.size : Int) > 0
    · obtain ⟨c, hc⟩ : ∃ c, a0.data.toList.getD 0 0 = c := ⟨_, rfl⟩
      have hbt : bt a0 0 = (c.toNat : Int) := by rw [show (0 : Int) = ((0 : Nat) : Int) from rfl, bt_getD, hc]
      obtain ⟨r, hr⟩ : ∃ r, a0.data.toList = c :: r := by
        cases hl : a0.data.toList with
        | nil => have := len_eq a0; rw [hl] at this; simp at this; omega
        | cons x r => rw [hl] at hc; simp at hc; exact ⟨r, by rw [hc]⟩
      by_cases h95 : c = 95
      · have he : (a0.extract 1 a0.size).data.toList = r := by rw [ext_list, hr]; simp; rw [List.take_of_length_le]; have := len_eq a0; rw [hr] at this; simp at this; omega
        have hs : (a0.extract 1 a0.size).size ≤ a0.size := by rw [ByteArray.size_extract]; omega
        have h := row_loop (a0.extract 1 a0.size) base hb (by omega) _ 0 (⟨#[]⟩ : ByteArray) rfl (by omega) (by decide)
        have e : trimU a0.data.toList = r := by rw [hr, trimU, if_pos h95]
        rw [e]
        rw [show (rowEnd (⟨#[]⟩ : ByteArray).data.toList (rowGo base (decide (0 < 0) && (a0.extract 1 a0.size).data.toList.getD (0 - 1) 0 != 95) ((a0.extract 1 a0.size).data.toList.drop 0))) = rowOf base r by rw [he]; rfl] at h
        refine Ev.congr (fun k => ?_) (Ev.step (g := fun k => scholiastref02_row.j0 k a0 base true) (f := fun k => scholiastref02_row.j1 k (a0.extract 1 a0.size) base) (fun k => ?_) (Ev.step (fun k => ?_) h))
        · simp only [scholiastref02_row.f]
          rw [if_pos (by trivial), if_pos h0, if_pos (by omega), hbt]
          congr 1
          rw [beq_iff_eq]
          exact (byte_is c 95 (by decide)).2 h95
        · simp only [scholiastref02_row.j0]
          rw [if_pos (by trivial), if_pos (by omega)]
        · simp only [scholiastref02_row.j1]
          rfl
      · have e : trimU a0.data.toList = a0.data.toList := by rw [hr, trimU, if_neg h95]
        rw [e]
        refine Ev.congr (fun k => ?_) hp
        simp only [scholiastref02_row.f]
        rw [if_pos (by trivial), if_pos h0, if_pos (by omega), hbt]
        congr 1
        rw [beq_eq_false_iff_ne]
        exact fun h => h95 ((byte_is c 95 (by decide)).1 h)
    · have hr : a0.data.toList = [] := List.eq_nil_of_length_eq_zero (by rw [len_eq]; omega)
      have e : trimU a0.data.toList = a0.data.toList := by rw [hr]; rfl
      rw [e]
      refine Ev.congr (fun k => ?_) hp
      simp only [scholiastref02_row.f]
      rw [if_pos (by trivial), if_neg h0]
end Go.Proofs.YtkpceagbjodbbaaDoor.Pure
