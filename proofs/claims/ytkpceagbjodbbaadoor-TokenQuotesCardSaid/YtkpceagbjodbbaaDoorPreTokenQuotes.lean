/- What the printed functions of token and its reference compute: words and signs. Own work. -/
import Derived.Test.YtkpceagbjodbbaaDoorPA10
import Derived.Test.YtkpceagbjodbbaaDoorPA11
import Derived.Test.YtkpceagbjodbbaaDoorPA4
import Derived.Test.YtkpceagbjodbbaaDoorPA7
import Derived.Test.YtkpceagbjodbbaaDoorPlain
import Derived.KernelRfl
import Derived.Test.YtkpceagbjodbbaaDoorPA1
import Derived.Test.YtkpceagbjodbbaaDoorPA12
import Derived.Test.YtkpceagbjodbbaaDoorPA13
import Derived.Test.YtkpceagbjodbbaaDoorPA15
import Derived.Test.YtkpceagbjodbbaaDoorPA2
import Derived.Test.YtkpceagbjodbbaaDoorPA3
import Derived.Test.YtkpceagbjodbbaaDoorX1
import Derived.Laws.BitsLemmas
import Derived.Test.YtkpceagbjodbbaaDoorPA16
import Derived.IntWalk
import Derived.Test.YtkpceagbjodbbaaDoorPA17
import Derived.Test.YtkpceagbjodbbaaDoorX2
import Derived.Test.YtkpceagbjodbbaaDoorXR
namespace Go.Proofs.YtkpceagbjodbbaaDoor.Pure
open Go.RowKit Go.Proofs.YtkpceagbjodbbaaDoorW.PrintWords Go.Proofs.YtkpceagbjodbbaaDoor.PA Go.Proofs.YtkpceagbjodbbaaDoor.Ext Go.Proofs.YtkpceagbjodbbaaDoor.Plain
set_option linter.unusedVariables false
set_option linter.unusedSimpArgs false

theorem wrap_small {i : Int} (h0 : -9223372036854775808 ≤ i) (h : i < 9223372036854775808) : wrap64 i = i := by unfold wrap64; omega
theorem toList_eq (s : ByteArray) : s.toList = s.data.toList := Lib.toList_data s
theorem len_eq (s : ByteArray) : s.data.toList.length = s.size := by rw [Array.length_toList]; rfl
theorem ext_list (s : ByteArray) (a b : Nat) : (s.extract a b).data.toList = (s.data.toList.drop a).take (b - a) := by
  rw [← toList_eq]; exact Lib.extract_toList s a b
theorem bt_list (s : ByteArray) (i : Nat) (h : i < s.size) : bt s i = ((s.data.toList[i]'(by rw [len_eq]; exact h)).toNat : Int) := by
  unfold bt
  rw [dif_pos (by simpa using h)]
  simp
  rfl
theorem bt_getD (s : ByteArray) (i : Nat) : bt s i = ((s.data.toList.getD i 0).toNat : Int) := by
  by_cases h : i < s.size
  · rw [bt_list s i h, List.getD_eq_getElem?_getD, List.getElem?_eq_getElem (by rw [len_eq]; exact h)]
    rfl
  · unfold bt
    rw [dif_neg (by simpa using h), List.getD_eq_getElem?_getD, List.getElem?_eq_none (by rw [len_eq]; omega)]
    rfl
theorem rdOf_at {α : Type} (d : α) (xs : List α) (i : Nat) (h : i < xs.length) : rdOf d xs (i : Int) = xs[i] := by
  unfold rdOf
  simp [h]

/-! ### HasPrefix -/
theorem prefix_is (a p : ByteArray) : stringslite_HasPrefix.f a p = some (p.data.toList.isPrefixOf a.data.toList) := by
  unfold stringslite_HasPrefix.f
  by_cases h : (a.size : Int) ≥ (p.size : Int)
  · rw [if_pos h, if_pos (by omega), if_pos (by omega)]
    congr 1
    have e : (a.extract 0 p.size).toList = a.data.toList.take p.size := by rw [toList_eq, ext_list]; simp
    first
      | rw [e, toList_eq]
      | (rw [show ((p.size : Int) : Int).toNat = p.size by simp, e, toList_eq])
    rw [Bool.eq_iff_iff, beq_iff_eq, List.isPrefixOf_iff_prefix, List.prefix_iff_eq_take, len_eq]
    exact eq_comm
  · rw [if_neg h]
    congr 1
    symm
    rw [Bool.eq_false_iff]
    intro hp
    have := (List.isPrefixOf_iff_prefix.1 hp).length_le
    rw [len_eq, len_eq] at this
    omega
theorem hasPrefix_is (a p : ByteArray) : strings_HasPrefix.f a p = some (p.data.toList.isPrefixOf a.data.toList) := by
  unfold strings_HasPrefix.f
  rw [prefix_is]
  rfl

/-! ### Operator -/
/-- The longest sign of a list that a text begins with, from the i-th on. -/
def opGo (L : List UInt8) : List ByteArray → Nat → Int → Int → Int × Int
  | [], _, k, w => (k, w)
  | s :: r, i, k, w => if (s.size : Int) > w ∧ s.data.toList.isPrefixOf L = true then opGo L r (i + 1) (20 + i) s.size else opGo L r (i + 1) k w
theorem op_loop (a0 : ByteArray) (xs : List ByteArray) (hx : xs.length < 1000) : ∀ (n i : Nat) (x4 x5 : Int), xs.length - i = n → i ≤ xs.length → Ev (fun k => token_Operator.l0 k a0 x4 x5 xs xs.length i) (opGo a0.data.toList (xs.drop i) i x4 x5)
  | 0, i, x4, x5, hn, hi => by
    have : i = xs.length := by omega
    subst this
    rw [List.drop_length]
    refine Ev.step (f := fun _ => some (x4, x5)) (fun k => ?_) (Ev.now _)
    simp only [token_Operator.l0]
    rw [if_neg (by omega)]
  | n + 1, i, x4, x5, hn, hi => by
    have hlt : i < xs.length := by omega
    rw [List.drop_eq_getElem_cons hlt, opGo]
    have hw : wrap64 ((i : Int) + 1) = ((i + 1 : Nat) : Int) := by rw [wrap_small (by omega) (by omega)]; omega
    have hw2 : wrap64 (20 + (i : Int)) = 20 + (i : Int) := wrap_small (by omega) (by omega)
    have i1 := op_loop a0 xs hx n (i + 1) x4 x5 (by omega) (by omega)
    have i2 := op_loop a0 xs hx n (i + 1) (20 + i) xs[i].size (by omega) (by omega)
    by_cases h1 : (xs[i].size : Int) > x5
    · by_cases h2 : xs[i].data.toList.isPrefixOf a0.data.toList = true
      · rw [if_pos ⟨h1, h2⟩]
        refine Ev.step (fun k => ?_) i2
        simp only [token_Operator.l0]
        rw [if_pos (by omega), if_pos (by omega), if_pos (by omega), rdOf_at _ _ _ hlt, if_pos h1, hasPrefix_is, Option.bind_some, if_pos h2, hw, hw2]
      · rw [if_neg (fun h => h2 h.2)]
        refine Ev.step (fun k => ?_) i1
        simp only [token_Operator.l0]
        rw [if_pos (by omega), if_pos (by omega), if_pos (by omega), rdOf_at _ _ _ hlt, if_pos h1, hasPrefix_is, Option.bind_some, if_neg h2, hw]
    · rw [if_neg (fun h => h1 h.1)]
      refine Ev.step (fun k => ?_) i1
      simp only [token_Operator.l0]
      rw [if_pos (by omega), if_pos (by omega), if_pos (by omega), rdOf_at _ _ _ hlt, if_neg h1, hw]
theorem ref_op_loop (a0 : ByteArray) (xs : List ByteArray) (hx : xs.length < 1000) : ∀ (n i : Nat) (x4 x5 : Int), xs.length - i = n → i ≤ xs.length → Ev (fun k => scholiastref02_Operator.l0 k a0 x4 x5 xs xs.length i) (opGo a0.data.toList (xs.drop i) i x4 x5)
  | 0, i, x4, x5, hn, hi => by
    have : i = xs.length := by omega
    subst this
    rw [List.drop_length]
    refine Ev.step (f := fun _ => some (x4, x5)) (fun k => ?_) (Ev.now _)
    simp only [scholiastref02_Operator.l0]
    rw [if_neg (by omega)]
  | n + 1, i, x4, x5, hn, hi => by
    have hlt : i < xs.length := by omega
    rw [List.drop_eq_getElem_cons hlt, opGo]
    have hw : wrap64 ((i : Int) + 1) = ((i + 1 : Nat) : Int) := by rw [wrap_small (by omega) (by omega)]; omega
    have hw2 : wrap64 (20 + (i : Int)) = 20 + (i : Int) := wrap_small (by omega) (by omega)
    have i1 := ref_op_loop a0 xs hx n (i + 1) x4 x5 (by omega) (by omega)
    have i2 := ref_op_loop a0 xs hx n (i + 1) (20 + i) xs[i].size (by omega) (by omega)
    by_cases h1 : (xs[i].size : Int) > x5
    · by_cases hs : (xs[i].size : Int) ≤ (a0.size : Int)
      · have e : (a0.extract 0 xs[i].size).toList = xs[i].toList ↔ xs[i].data.toList.isPrefixOf a0.data.toList = true := by
          rw [toList_eq, toList_eq, ext_list, List.isPrefixOf_iff_prefix, List.prefix_iff_eq_take, len_eq]
          simp
          exact eq_comm
        by_cases h2 : xs[i].data.toList.isPrefixOf a0.data.toList = true
        · rw [if_pos ⟨h1, h2⟩]
          refine Ev.step (fun k => ?_) i2
          simp only [scholiastref02_Operator.l0]
          rw [if_pos (by omega), if_pos (by omega), if_pos (by omega), rdOf_at _ _ _ hlt, if_pos h1, if_pos hs, if_pos (by omega), if_pos (e.2 h2), hw, hw2]
        · rw [if_neg (fun h => h2 h.2)]
          refine Ev.step (fun k => ?_) i1
          simp only [scholiastref02_Operator.l0]
          rw [if_pos (by omega), if_pos (by omega), if_pos (by omega), rdOf_at _ _ _ hlt, if_pos h1, if_pos hs, if_pos (by omega), if_neg (fun h => h2 (e.1 h)), hw]
      · have h2 : ¬ xs[i].data.toList.isPrefixOf a0.data.toList = true := fun hp => by
          have := (List.isPrefixOf_iff_prefix.1 hp).length_le
          rw [len_eq, len_eq] at this
          omega
        rw [if_neg (fun h => h2 h.2)]
        refine Ev.step (fun k => ?_) i1
        simp only [scholiastref02_Operator.l0]
        rw [if_pos (by omega), if_pos (by omega), if_pos (by omega), rdOf_at _ _ _ hlt, if_pos h1, if_neg hs, hw]
    · rw [if_neg (fun h => h1 h.1)]
      refine Ev.step (fun k => ?_) i1
      simp only [scholiastref02_Operator.l0]
      rw [if_pos (by omega), if_pos (by omega), if_pos (by omega), rdOf_at _ _ _ hlt, if_neg h1, hw]
/-- The signs, in the order of their kinds. -/
def SG : List ByteArray := token_signs.f.getD []
theorem signs_is : token_signs.f = some SG := by kernel_rfl
theorem ref_signs_is : scholiastref02_Signs.f 400 = some SG := by kernel_rfl
def opOf (L : List UInt8) : Int × Int := if [59].isPrefixOf L = true then (15, 1) else opGo L SG 0 0 0
theorem operator_is (a0 : ByteArray) : Ev (fun k => token_Operator.f k a0) (opOf a0.data.toList) := by
  unfold opOf
  by_cases h : ([59] : List UInt8).isPrefixOf a0.data.toList = true
  · rw [if_pos h]
    refine Ev.congr (fun k => ?_) (Ev.now _)
    simp only [token_Operator.f]
    rw [hasPrefix_is, Option.bind_some, if_pos h]
  · rw [if_neg h]
    refine Ev.congr (fun k => ?_) (op_loop a0 SG (by decide) 46 0 0 0 (by decide) (by decide))
    simp only [token_Operator.f]
    rw [hasPrefix_is, Option.bind_some, if_neg h, signs_is, Option.bind_some]
    rfl
theorem head59 (a0 : ByteArray) (h : 0 < a0.size) : (bt a0 0 == 59) = ([59] : List UInt8).isPrefixOf a0.data.toList := by
  have hb := bt_getD a0 0
  have hl := len_eq a0
  rw [show ((0 : Nat) : Int) = 0 from rfl] at hb
  rw [hb]
  cases hL : a0.data.toList with
  | nil => rw [hL] at hl; simp at hl; omega
  | cons c r =>
    rw [isPrefixOf_one, Bool.eq_iff_iff]
    simp only [beq_iff_eq, List.getD_cons_zero]
    constructor
    · intro e
      apply UInt8.toNat_inj.1
      have : c.toNat = 59 := by omega
      rw [this]
      rfl
    · rintro rfl
      rfl
theorem ref_operator_is (a0 : ByteArray) : Ev (fun k => scholiastref02_Operator.f k a0) (opOf a0.data.toList) := by
  have hs : Ev (fun k => scholiastref02_Signs.f k) SG := Ev.of (fun k => scholiastref02_Signs.mono k) ref_signs_is
  have hl := ref_op_loop a0 SG (by decide) 46 0 0 0 (by decide) (by decide)
  have hg : Ev (fun k => scholiastref02_Operator.j0 k a0 0 0 false) (opGo a0.data.toList SG 0 0 0) := by
    refine Ev.step (f := fun k => (scholiastref02_Signs.f k).bind fun t => scholiastref02_Operator.l0 k a0 0 0 t t.length 0) (fun k => ?_) (Ev.bind hs hl)
    simp only [scholiastref02_Operator.j0]
    rw [if_neg (by decide)]
  unfold opOf
  by_cases h0 : (a0.size : Int) > 0
  · by_cases h : ([59] : List UInt8).isPrefixOf a0.data.toList = true
    · rw [if_pos h]
      have : Ev (fun k => scholiastref02_Operator.j0 k a0 0 0 true) (15, 1) := by
        refine Ev.step (f := fun _ => some (15, 1)) (fun k => ?_) (Ev.now _)
        simp only [scholiastref02_Operator.j0]
        rw [if_pos trivial]
      refine Ev.congr (fun k => ?_) this
      simp only [scholiastref02_Operator.f]
      rw [if_pos h0, if_pos (by omega), head59 a0 (by omega), h]
    · rw [if_neg h]
      refine Ev.congr (fun k => ?_) hg
      simp only [scholiastref02_Operator.f]
      rw [if_pos h0, if_pos (by omega), head59 a0 (by omega), Bool.eq_false_iff.mpr h]
  · have h : ¬ ([59] : List UInt8).isPrefixOf a0.data.toList = true := fun hp => by
      have := (List.isPrefixOf_iff_prefix.1 hp).length_le
      rw [len_eq] at this
      simp at this
      omega
    rw [if_neg h]
    refine Ev.congr (fun k => ?_) hg
    simp only [scholiastref02_Operator.f]
    rw [if_neg h0]

/-! ### Keyword -/
def kwGo (L : List UInt8) : List ByteArray → Nat → Int
  | [], _ => 0
  | s :: r, i => if s.data.toList = L then 70 + i else kwGo L r (i + 1)
theorem kw_loop (a0 : ByteArray) (xs : List ByteArray) (hx : xs.length < 1000) : ∀ (n i : Nat), xs.length - i = n → i ≤ xs.length → Ev (fun k => token_Keyword.l0 k a0 xs xs.length i) (kwGo a0.data.toList (xs.drop i) i)
  | 0, i, hn, hi => by
    have : i = xs.length := by omega
    subst this
    rw [List.drop_length]
    refine Ev.step (f := fun _ => some 0) (fun k => ?_) (Ev.now _)
    simp only [token_Keyword.l0]
    rw [if_neg (by omega)]
  | n + 1, i, hn, hi => by
    have hlt : i < xs.length := by omega
    rw [List.drop_eq_getElem_cons hlt, kwGo]
    have hw : wrap64 ((i : Int) + 1) = ((i + 1 : Nat) : Int) := by rw [wrap_small (by omega) (by omega)]; omega
    have hw2 : wrap64 (70 + (i : Int)) = 70 + (i : Int) := wrap_small (by omega) (by omega)
    by_cases h1 : xs[i].data.toList = a0.data.toList
    · rw [if_pos h1]
      refine Ev.step (f := fun _ => some (70 + (i : Int))) (fun k => ?_) (Ev.now _)
      simp only [token_Keyword.l0]
      rw [if_pos (by omega), if_pos (by omega), if_pos (by omega), rdOf_at _ _ _ hlt, toList_eq, toList_eq, if_pos h1, hw2]
    · rw [if_neg h1]
      refine Ev.step (fun k => ?_) (kw_loop a0 xs hx n (i + 1) (by omega) (by omega))
      simp only [token_Keyword.l0]
      rw [if_pos (by omega), if_pos (by omega), if_pos (by omega), rdOf_at _ _ _ hlt, toList_eq, toList_eq, if_neg h1, hw]
theorem ref_kw_loop (a0 : ByteArray) (xs : List ByteArray) (hx : xs.length < 1000) : ∀ (n i : Nat), xs.length - i = n → i ≤ xs.length → Ev (fun k => scholiastref02_Keyword.l0 k a0 xs xs.length i) (kwGo a0.data.toList (xs.drop i) i)
  | 0, i, hn, hi => by
    have : i = xs.length := by omega
    subst this
    rw [List.drop_length]
    refine Ev.step (f := fun _ => some 0) (fun k => ?_) (Ev.now _)
    simp only [scholiastref02_Keyword.l0]
    rw [if_neg (by omega)]
  | n + 1, i, hn, hi => by
    have hlt : i < xs.length := by omega
    rw [List.drop_eq_getElem_cons hlt, kwGo]
    have hw : wrap64 ((i : Int) + 1) = ((i + 1 : Nat) : Int) := by rw [wrap_small (by omega) (by omega)]; omega
    have hw2 : wrap64 (70 + (i : Int)) = 70 + (i : Int) := wrap_small (by omega) (by omega)
    by_cases h1 : xs[i].data.toList = a0.data.toList
    · rw [if_pos h1]
      refine Ev.step (f := fun _ => some (70 + (i : Int))) (fun k => ?_) (Ev.now _)
      simp only [scholiastref02_Keyword.l0]
      rw [if_pos (by omega), if_pos (by omega), if_pos (by omega), rdOf_at _ _ _ hlt, toList_eq, toList_eq, if_pos h1, hw2]
    · rw [if_neg h1]
      refine Ev.step (fun k => ?_) (ref_kw_loop a0 xs hx n (i + 1) (by omega) (by omega))
      simp only [scholiastref02_Keyword.l0]
      rw [if_pos (by omega), if_pos (by omega), if_pos (by omega), rdOf_at _ _ _ hlt, toList_eq, toList_eq, if_neg h1, hw]
def KW : List ByteArray := token_words.f.getD []
theorem words_is : token_words.f = some KW := by kernel_rfl
theorem ref_words_is : scholiastref02_Keywords.f 400 = some KW := by kernel_rfl
def kwOf (L : List UInt8) : Int := kwGo L KW 0
theorem keyword_is (a0 : ByteArray) : Ev (fun k => token_Keyword.f k a0) (kwOf a0.data.toList) := by
  refine Ev.congr (fun k => ?_) (kw_loop a0 KW (by decide) 21 0 (by decide) (by decide))
  simp only [token_Keyword.f]
  rw [words_is, Option.bind_some]
  rfl
theorem ref_keyword_is (a0 : ByteArray) : Ev (fun k => scholiastref02_Keyword.f k a0) (kwOf a0.data.toList) := by
  have hs : Ev (fun k => scholiastref02_Keywords.f k) KW := Ev.of (fun k => scholiastref02_Keywords.mono k) ref_words_is
  exact Ev.bind (f := fun k t => scholiastref02_Keyword.l0 k a0 t t.length 0) hs (ref_kw_loop a0 KW (by decide) 21 0 (by decide) (by decide))
end Go.Proofs.YtkpceagbjodbbaaDoor.Pure
/- What the printed functions of token and its reference compute: numbers. Own work. -/
namespace Go.Proofs.YtkpceagbjodbbaaDoor.Pure
open Go.RowKit Go.Proofs.YtkpceagbjodbbaaDoorW.PrintWords Go.Proofs.YtkpceagbjodbbaaDoor.PA Go.Proofs.YtkpceagbjodbbaaDoor.Ext Go.Proofs.YtkpceagbjodbbaaDoor.Plain
set_option linter.unusedVariables false
set_option linter.unusedSimpArgs false

def ofL (l : List UInt8) : ByteArray := ⟨l.toArray⟩
theorem ofL_list (l : List UInt8) : (ofL l).data.toList = l := by simp [ofL]
theorem eq_ofL {s : ByteArray} {l : List UInt8} (h : s.data.toList = l) : s = ofL l := by
  subst h
  simp [ofL]
theorem ofL_size (l : List UInt8) : (ofL l).size = l.length := by rw [← len_eq, ofL_list]
theorem append_list (a b : ByteArray) : (a ++ b).data.toList = a.data.toList ++ b.data.toList := by simp [ByteArray.data_append]
theorem byte_is (c : UInt8) (n : Nat) (h : n < 256) : (c.toNat : Int) = n ↔ c = UInt8.ofNat n := by
  constructor
  · intro e
    apply UInt8.toNat_inj.1
    rw [UInt8.toNat_ofNat_of_lt' h]
    omega
  · rintro rfl
    rw [UInt8.toNat_ofNat_of_lt' h]
theorem byte_lt (c : UInt8) : c.toNat < 256 := UInt8.toNat_lt c

theorem digit_is (c : Int) (h0 : 0 ≤ c) (h1 : c ≤ 255) : token_digit.f 3 c = some (dT c) := by
  simp only [token_digit.f, token_digit.j0, token_digit.j1, decide_eq_true_eq, Bool.false_eq_true, if_false]
  unfold dT
  repeat' split
  all_goals first | rfl | omega | (congr 1; omega) | (exfalso; omega)
theorem ref_digit_is (c : Int) (h0 : 0 ≤ c) (h1 : c ≤ 255) : scholiastref02_Digit.f 3 c = some (dR c) := by
  simp only [scholiastref02_Digit.f, scholiastref02_Digit.j0, scholiastref02_Digit.j1, decide_eq_true_eq, Bool.false_eq_true, if_false]
  unfold dR
  repeat' split
  all_goals first | rfl | omega | (congr 1; omega) | (exfalso; omega)
theorem digit_ev (c : UInt8) : Ev (fun k => token_digit.f k c.toNat) (dT c.toNat) := Ev.of (fun k => token_digit.mono _ k) (digit_is _ (by omega) (by have := byte_lt c; omega))
theorem ref_digit_ev (c : UInt8) : Ev (fun k => scholiastref02_Digit.f k c.toNat) (dR c.toNat) := Ev.of (fun k => scholiastref02_Digit.mono _ k) (ref_digit_is _ (by omega) (by have := byte_lt c; omega))

/-! ### row -/
def rowEnd (acc : List UInt8) : Option (List UInt8) → ByteArray × Bool
  | some d => (ofL (acc ++ d), (acc ++ d) != [])
  | none => (ofL [], false)
theorem row_loop (x0 : ByteArray) (base : Int) (hb : base ≤ 16) (hx : x0.size ≤ 140737488355328) : ∀ (n i : Nat) (x8 : ByteArray), x0.size - i = n → i ≤ x0.size → x8.size ≤ i →
    Ev (fun k => scholiastref02_row.l0 k x0 base x8 i) (rowEnd x8.data.toList (rowGo base (decide (0 < i) && x0.data.toList.getD (i - 1) 0 != 95) (x0.data.toList.drop i)))
  | 0, i, x8, hn, hi, h8 => by
    have : i = x0.size := by omega
    subst this
    have e : x0.data.toList.drop x0.size = [] := by rw [← len_eq, List.drop_length]
    rw [e]
    refine Ev.step (f := fun _ => some (x8, (x8.toList != ([] : List UInt8)))) (fun k => ?_) ?_
    · simp only [scholiastref02_row.l0]
      rw [if_neg (by omega)]
    · refine Ev.congr (fun k => ?_) (Ev.now _)
      simp only [rowGo, rowEnd, List.append_nil]
      rw [toList_eq, ← eq_ofL rfl]
  | n + 1, i, x8, hn, hi, h8 => by
    have hlt : i < x0.size := by omega
    have hlt' : i < x0.data.toList.length := by rw [len_eq]; exact hlt
    obtain ⟨c, hc⟩ : ∃ c, x0.data.toList.getD i 0 = c := ⟨_, rfl⟩
    have hbt : bt x0 i = (c.toNat : Int) := by rw [bt_getD, hc]
    have hdrop : x0.data.toList.drop i = c :: x0.data.toList.drop (i + 1) := by
      rw [List.drop_eq_getElem_cons hlt', ← hc, List.getD_eq_getElem?_getD, List.getElem?_eq_getElem hlt']
      rfl
    have hw : wrap64 ((i : Int) + 1) = ((i + 1 : Nat) : Int) := by rw [wrap_small (by omega) (by omega)]; omega
    have c95 : bt x0 i = 95 ↔ c = 95 := by rw [hbt]; exact byte_is c 95 (by decide)
    have hrest : x0.data.toList.drop (i + 1) ≠ [] ↔ ((i + 1 : Nat) : Int) < (x0.size : Int) := by
      rw [Ne, List.drop_eq_nil_iff, len_eq]
      omega
    obtain ⟨pv, hpv⟩ : ∃ pv, x0.data.toList.getD (i - 1) 0 = pv := ⟨_, rfl⟩
    rw [hpv]
    -- the digit's way
    have way : ¬ c = 95 ∨ (decide (0 < i) && pv != 95) = false ∨ ¬ ((i + 1 : Nat) : Int) < (x0.size : Int) →
        Ev (fun k => scholiastref02_row.j3 k x0 base x8 i false) (rowEnd x8.data.toList (rowGo base (decide (0 < i) && pv != 95) (x0.data.toList.drop i))) := by
      intro hway
      rw [hdrop, rowGo]
      rw [if_neg (by
        rintro ⟨h1, h2, h3⟩
        rcases hway with h | h | h
        · exact h h1
        · rw [h] at h2; cases h2
        · exact h (hrest.1 h3))]
      have he : (x0.extract i (i + 1)).data.toList = [c] := by rw [ext_list, hdrop]; simp
      have hes : (x0.extract i (i + 1)).size = 1 := by rw [← len_eq, he]; rfl
      have hna : (x8 ++ x0.extract i (i + 1)).data.toList = x8.data.toList ++ [c] := by rw [append_list, he]
      have hns : (x8 ++ x0.extract i (i + 1)).size = x8.size + 1 := by rw [← len_eq, hna, List.length_append, len_eq]; rfl
      have g1 : ((i : Int) ≤ ((i + 1 : Nat) : Int)) = True := eq_true (by omega)
      have g2 : (((i + 1 : Nat) : Int) ≤ (x0.size : Int)) = True := eq_true (by omega)
      have g3 : (x8.size + (x0.extract i (i + 1)).size ≤ 9223372036854775807) = True := eq_true (by omega)
      have g4 : ((0 : Int) ≤ (i : Int)) = True := eq_true (by omega)
      have g5 : ((i : Int) < (x0.size : Int)) = True := eq_true (by omega)
      refine Ev.step (f := fun k => (scholiastref02_Digit.f k (bt x0 i)).bind fun t => (if t ≥ base then (some ((⟨#[]⟩ : ByteArray), false)) else scholiastref02_row.l0 k x0 base (x8 ++ x0.extract i (i + 1)) ((i + 1 : Nat) : Int))) (fun k => ?_) ?_
      · simp only [scholiastref02_row.j3, hw, Int.toNat_natCast, g1, g2, g3, g4, g5, if_true, Bool.false_eq_true, if_false]
      rw [hbt]
      refine Ev.bind (ref_digit_ev c) ?_
      by_cases hd : base ≤ dR c.toNat
      · simp only [ge_iff_le, hd, if_true]
        exact Ev.now _
      · simp only [ge_iff_le, hd, if_false]
        have ih := row_loop x0 base hb hx n (i + 1) (x8 ++ x0.extract i (i + 1)) (by omega) (by omega) (by omega)
        have hpd : (decide (0 < i + 1) && x0.data.toList.getD (i + 1 - 1) 0 != 95) = true := by
          rw [show i + 1 - 1 = i by omega, hc]
          have : c ≠ 95 := by
            rintro rfl
            simp [dR] at hd
            omega
          simp [this]
        rw [hpd, hna] at ih
        have hend : rowEnd x8.data.toList ((rowGo base true (x0.data.toList.drop (i + 1))).map (c :: ·)) = rowEnd (x8.data.toList ++ [c]) (rowGo base true (x0.data.toList.drop (i + 1))) := by
          cases rowGo base true (x0.data.toList.drop (i + 1)) with
          | none => rfl
          | some d => simp [rowEnd]
        rw [hend]
        exact ih
    by_cases h95 : c = 95
    · by_cases hpos : 0 < i
      · have hwm : wrap64 ((i : Int) - 1) = ((i - 1 : Nat) : Int) := by rw [wrap_small (by omega) (by omega)]; omega
        have p95 : bt x0 ((i - 1 : Nat) : Int) = 95 ↔ pv = 95 := by rw [bt_getD, hpv]; exact byte_is _ 95 (by decide)
        by_cases hp : pv = 95
        · refine Ev.step (fun k => ?_) (way (Or.inr (Or.inl (by simp [hp]))))
          simp only [scholiastref02_row.l0]
          rw [if_pos (by omega), if_pos (by omega), if_pos (c95.2 h95), if_pos (by omega), hwm, if_pos (by omega), if_pos (by omega), if_pos (p95.2 hp)]
        · by_cases hl : ((i + 1 : Nat) : Int) < (x0.size : Int)
          · have ih := row_loop x0 base hb hx n (i + 1) x8 (by omega) (by omega) (by omega)
            have hpd : (decide (0 < i + 1) && x0.data.toList.getD (i + 1 - 1) 0 != 95) = false := by
              rw [show i + 1 - 1 = i by omega, hc, h95]
              simp
            rw [hpd] at ih
            have hgo : rowGo base (decide (0 < i) && pv != 95) (x0.data.toList.drop i) = rowGo base false (x0.data.toList.drop (i + 1)) := by
              rw [hdrop, rowGo, if_pos ⟨h95, by simp [hpos, hp], hrest.2 hl⟩]
            rw [hgo]
            refine Ev.step (f := fun k => scholiastref02_row.j3 k x0 base x8 i true) (fun k => ?_) (Ev.step (fun k => ?_) ih)
            · simp only [scholiastref02_row.l0]
              rw [if_pos (by omega), if_pos (by omega), if_pos (c95.2 h95), if_pos (by omega), hwm, if_pos (by omega), if_pos (by omega), if_neg (fun h => hp (p95.1 h)), hw, decide_eq_true hl]
            · simp only [scholiastref02_row.j3]
              rw [if_pos (by trivial), hw]
          · refine Ev.step (fun k => ?_) (way (Or.inr (Or.inr hl)))
            simp only [scholiastref02_row.l0]
            rw [if_pos (by omega), if_pos (by omega), if_pos (c95.2 h95), if_pos (by omega), hwm, if_pos (by omega), if_pos (by omega), if_neg (fun h => hp (p95.1 h)), hw, decide_eq_false hl]
      · refine Ev.step (fun k => ?_) (way (Or.inr (Or.inl (by simp [hpos]))))
        simp only [scholiastref02_row.l0]
        rw [if_pos (by omega), if_pos (by omega), if_pos (c95.2 h95), if_neg (by omega)]
    · refine Ev.step (fun k => ?_) (way (Or.inl h95))
      simp only [scholiastref02_row.l0]
      rw [if_pos (by omega), if_pos (by omega), if_neg (fun h => h95 (c95.1 h))]

/-- A text without one _ ahead. -/
def trimU : List UInt8 → List UInt8
  | [] => []
  | c :: r => if c = 95 then r else c :: r
def rowOf (base : Int) (R : List UInt8) : ByteArray × Bool := rowEnd [] (rowGo base false R)
theorem row_plain (a0 : ByteArray) (base : Int) (hb : base ≤ 16) (hx : a0.size ≤ 140737488355328) : Ev (fun k => scholiastref02_row.j0 k a0 base false) (rowOf base a0.data.toList) := by
  have h := row_loop a0 base hb hx a0.size 0 (⟨#[]⟩ : ByteArray) (by omega) (by omega) (by decide)
  refine Ev.step (f := fun k => scholiastref02_row.j1 k a0 base) (fun k => ?_) (Ev.step (fun k => ?_) h)
  · simp only [scholiastref02_row.j0]
    rw [if_neg (by decide)]
  · simp only [scholiastref02_row.j1]
    rfl
theorem row_is (a0 : ByteArray) (base : Int) (ahead : Bool) (hb : base ≤ 16) (hx : a0.size ≤ 140737488355328) : Ev (fun k => scholiastref02_row.f k a0 base ahead) (rowOf base (if ahead = true then trimU a0.data.toList else a0.data.toList)) := by
  have hp := row_plain a0 base hb hx
  cases ahead with
  | false =>
    refine Ev.congr (fun k => ?_) hp
    simp only [scholiastref02_row.f]
    rw [if_neg (by decide)]
  | true =>
    rw [if_pos (by trivial)]
    by_cases h0 : (a0.size : Int) > 0
    · obtain ⟨c, hc⟩ : ∃ c, a0.data.toList.getD 0 0 = c := ⟨_, rfl⟩
      have hbt : bt a0 0 = (c.toNat : Int) := by rw [show (0 : Int) = ((0 : Nat) : Int) from rfl, bt_getD, hc]
      obtain ⟨r, hr⟩ : ∃ r, a0.data.toList = c :: r := by
        cases hl : a0.data.toList with
        | nil => have := len_eq a0; rw [hl] at this; simp at this; omega
        | cons x r => rw [hl] at hc; simp at hc; exact ⟨r, by rw [hc]⟩
      by_cases h95 : c = 95
      · have he : (a0.extract 1 a0.size).data.toList = r := by rw [ext_list, hr]; simp; rw [List.take_of_length_le]; have := len_eq a0; rw [hr] at this; simp at this; omega
        have hs : (a0.extract 1 a0.size).size ≤ a0.size := by rw [ByteArray.size_extract]; omega
        have h := row_loop (a0.extract 1 a0.size) base hb (by omega) _ 0 (⟨#[]⟩ : ByteArray) rfl (by omega) (by decide)
        have e : trimU a0.data.toList = r := by rw [hr, trimU, if_pos h95]
        rw [e]
        rw [show (rowEnd (⟨#[]⟩ : ByteArray).data.toList (rowGo base (decide (0 < 0) && (a0.extract 1 a0.size).data.toList.getD (0 - 1) 0 != 95) ((a0.extract 1 a0.size).data.toList.drop 0))) = rowOf base r by rw [he]; rfl] at h
        refine Ev.congr (fun k => ?_) (Ev.step (g := fun k => scholiastref02_row.j0 k a0 base true) (f := fun k => scholiastref02_row.j1 k (a0.extract 1 a0.size) base) (fun k => ?_) (Ev.step (fun k => ?_) h))
        · simp only [scholiastref02_row.f]
          rw [if_pos (by trivial), if_pos h0, if_pos (by omega), hbt]
          congr 1
          rw [beq_iff_eq]
          exact (byte_is c 95 (by decide)).2 h95
        · simp only [scholiastref02_row.j0]
          rw [if_pos (by trivial), if_pos (by omega)]
        · simp only [scholiastref02_row.j1]
          rfl
      · have e : trimU a0.data.toList = a0.data.toList := by rw [hr, trimU, if_neg h95]
        rw [e]
        refine Ev.congr (fun k => ?_) hp
        simp only [scholiastref02_row.f]
        rw [if_pos (by trivial), if_pos h0, if_pos (by omega), hbt]
        congr 1
        rw [beq_eq_false_iff_ne]
        exact fun h => h95 ((byte_is c 95 (by decide)).1 h)
    · have hr : a0.data.toList = [] := List.eq_nil_of_length_eq_zero (by rw [len_eq]; omega)
      have e : trimU a0.data.toList = a0.data.toList := by rw [hr]; rfl
      rw [e]
      refine Ev.congr (fun k => ?_) hp
      simp only [scholiastref02_row.f]
      rw [if_pos (by trivial), if_neg h0]
end Go.Proofs.YtkpceagbjodbbaaDoor.Pure
/- What an escape says, for token and its reference: one plain function. Own work. -/
namespace Go.Proofs.YtkpceagbjodbbaaDoor.Pure
open Go.RowKit Go.Proofs.YtkpceagbjodbbaaDoorW.PrintWords Go.Proofs.YtkpceagbjodbbaaDoor.PA Go.Proofs.YtkpceagbjodbbaaDoor.Ext Go.Proofs.YtkpceagbjodbbaaDoor.Plain
set_option linter.unusedVariables false
set_option linter.unusedSimpArgs false

/-! ### plain functions -/
def hx (c : UInt8) : Nat := (dR (c.toNat : Int)).toNat
theorem hx_is (c : UInt8) : dR (c.toNat : Int) = (hx c : Int) := by
  unfold hx
  have : 0 ≤ dR (c.toNat : Int) := by unfold dR; repeat' split <;> omega
  omega
theorem hx_T (c : UInt8) : dT (c.toNat : Int) = if hx c < 16 then (hx c : Int) else 16 := by
  have h := hx_is c
  unfold dT
  unfold dR at h
  repeat' split
  all_goals (repeat' split at h)
  all_goals omega
/-- The number that so many digits say. -/
def numV (b : Nat) : Nat → Nat → List UInt8 → Option Nat
  | 0, v, _ => some v
  | _ + 1, _, [] => none
  | n + 1, v, c :: r => if hx c < b then numV b n (v * b + hx c) r else none
theorem numV_short (b : Nat) : ∀ n v L, L.length < n → numV b n v L = none
  | 0, v, L, h => by omega
  | n + 1, v, [], h => rfl
  | n + 1, v, c :: r, h => by
    rw [numV]
    split
    · exact numV_short b n _ r (by simp at h; omega)
    · rfl
def pw (i : Nat) : Nat := 16 ^ i
theorem pw_succ (i : Nat) : pw (i + 1) = pw i * 16 := Nat.pow_succ ..
theorem pw_zero : 0 < pw 0 := by decide
theorem pw_le (i : Nat) (h : i ≤ 8) : pw i ≤ 4294967296 := Nat.le_trans (Nat.pow_le_pow_right (n := 16) (by decide) h) (by decide)
theorem pow16 (i : Nat) (h : i ≤ 7) : pw i ≤ 268435456 := Nat.le_trans (Nat.pow_le_pow_right (n := 16) (by decide) h) (by decide)
attribute [irreducible] pw
theorem numV_lt (b : Nat) (hb : b ≤ 16) : ∀ n i v L u, i + n ≤ 8 → v < pw i → numV b n v L = some u → u < pw (i + n)
  | 0, i, v, L, u, hi, hv, h => by
    rw [numV] at h
    cases h
    exact hv
  | n + 1, i, v, [], u, hi, hv, h => by cases h
  | n + 1, i, v, c :: r, u, hi, hv, h => by
    rw [numV] at h
    split at h
    · rename_i hc
      have hp := pw_succ i
      have hm : v * b ≤ v * 16 := Nat.mul_le_mul_left v hb
      have := numV_lt b hb n (i + 1) (v * b + hx c) r u (by omega) (by omega) h
      rw [show i + (n + 1) = i + 1 + n by omega]
      exact this
    · cases h
def simpV (c : UInt8) : Option Nat := if c = 97 then some 7 else if c = 98 then some 8 else if c = 116 then some 9 else if c = 110 then some 10 else if c = 118 then some 11 else if c = 102 then some 12 else if c = 114 then some 13 else none
def smallV (o : Option Nat) (n : Nat) : Option (Nat × List UInt8 × Nat) := match o with | some v => if v ≤ 255 then some (v, [UInt8.ofNat v], n) else none | none => none
def bigV (o : Option Nat) (n : Nat) : Option (Nat × List UInt8 × Nat) := match o with | some v => if Utf8.valid v = true then some (v, (Utf8.encode v).data.toList, n) else none | none => none
/-- What an escape says: its number, its bytes, how many bytes stand behind the backslash. -/
def escV (q : UInt8) : List UInt8 → Option (Nat × List UInt8 × Nat)
  | [] => none
  | c :: r => match simpV c with
    | some v => some (v, [UInt8.ofNat v], 1)
    | none => if c = 92 ∨ c = q then some (c.toNat, [c], 1) else if c = 120 then smallV (numV 16 2 0 r) 3 else if c = 117 then bigV (numV 16 4 0 r) 5 else if c = 85 then bigV (numV 16 8 0 r) 9 else smallV (numV 8 3 0 (c :: r)) 3

theorem all256 (p : UInt8 → Bool) (h : ((List.range 256).all fun n => p (UInt8.ofNat n)) = true) (c : UInt8) : p c = true := by
  have := List.all_eq_true.1 h c.toNat (by simp; exact byte_lt c)
  simpa using this

/-! ### value, number -/
def valR : Option Nat → Int × Bool
  | some v => (v, true)
  | none => (0, false)
def numR : Option Nat → Int
  | some v => v
  | none => -1
theorem value_loop (s : ByteArray) (b m : Nat) (hb : b ≤ 16) (hm : m ≤ s.size) (hm8 : m ≤ 8) : ∀ n i v, m - i = n → i ≤ m → v < pw i →
    Ev (fun k => token_value.l0 k s b v m i) (valR (numV b n v (s.data.toList.drop i)))
  | 0, i, v, hn, hi, hv => by
    refine Ev.step (f := fun _ => some ((v : Int), true)) (fun k => ?_) (Ev.now _)
    simp only [token_value.l0]
    rw [if_neg (by omega)]
  | n + 1, i, v, hn, hi, hv => by
    have hlt : i < s.size := by omega
    have hlt' : i < s.data.toList.length := by rw [len_eq]; exact hlt
    obtain ⟨c, hc⟩ : ∃ c, s.data.toList[i] = c := ⟨_, rfl⟩
    have hbt : bt s i = (c.toNat : Int) := by rw [bt_list s i hlt, hc]
    have hd : s.data.toList.drop i = c :: s.data.toList.drop (i + 1) := by rw [List.drop_eq_getElem_cons hlt', hc]
    rw [hd, numV]
    have hT := hx_T c
    by_cases hcb : hx c < b
    · rw [if_pos hcb]
      rw [if_pos (by omega)] at hT
      have hp := pw_succ i
      have h16 := pow16 i (by omega)
      have hmul : v * b ≤ v * 16 := Nat.mul_le_mul_left v hb
      have ih := value_loop s b m hb hm hm8 n (i + 1) (v * b + hx c) (by omega) (by omega) (by omega)
      have b0 : (-9223372036854775808 : Int) ≤ ((v * b : Nat) : Int) := by omega
      have b1 : ((v * b : Nat) : Int) < 9223372036854775808 := by omega
      have b2 : (-9223372036854775808 : Int) ≤ ((v * b : Nat) : Int) + (hx c : Int) := by omega
      have b3 : ((v * b : Nat) : Int) + (hx c : Int) < 9223372036854775808 := by omega
      have b5 : (i : Int) + 1 < 9223372036854775808 := by omega
      have b6 : (-9223372036854775808 : Int) ≤ (i : Int) + 1 := by omega
      have b7 : (i : Int) + 1 = ((i + 1 : Nat) : Int) := by omega
      refine Ev.step (f := fun k => (token_digit.f k (bt s i)).bind fun t101 => (if t101 ≥ (b : Int) then (some (0, false)) else ((token_digit.f k (bt s i)).bind fun t102 => (token_value.l0 k s b (wrap64 ((wrap64 ((v : Int) * (b : Int))) + t102)) m (wrap64 ((i : Int) + 1)))))) (fun k => ?_) ?_
      · simp only [token_value.l0]
        rw [if_pos (by omega), if_pos (by omega), if_pos (by omega)]
      rw [hbt]
      refine Ev.bind (digit_ev c) ?_
      have hge : ¬ dT (c.toNat : Int) ≥ (b : Int) := by omega
      simp only [if_neg hge]
      refine Ev.bind (digit_ev c) ?_
      have w1 : wrap64 ((v : Int) * (b : Int)) = ((v * b : Nat) : Int) := by rw [← Int.natCast_mul, wrap_small b0 b1]
      have w2 : wrap64 (((v * b : Nat) : Int) + (hx c : Int)) = ((v * b + hx c : Nat) : Int) := by rw [wrap_small b2 b3]; exact (Int.natCast_add _ _).symm
      have w3 := (wrap_small b6 b5).trans b7
      rw [hT, w1, w2, w3]
      exact ih
    · rw [if_neg hcb]
      refine Ev.step (f := fun k => (token_digit.f k (bt s i)).bind fun t101 => (if t101 ≥ (b : Int) then (some (0, false)) else ((token_digit.f k (bt s i)).bind fun t102 => (token_value.l0 k s b (wrap64 ((wrap64 ((v : Int) * (b : Int))) + t102)) m (wrap64 ((i : Int) + 1)))))) (fun k => ?_) ?_
      · simp only [token_value.l0]
        rw [if_pos (by omega), if_pos (by omega), if_pos (by omega)]
      rw [hbt]
      refine Ev.bind (digit_ev c) ?_
      have hge : dT (c.toNat : Int) ≥ (b : Int) := by split at hT <;> omega
      simp only [if_pos hge]
      exact Ev.now _
theorem value_is (s : ByteArray) (m b : Nat) (hb : b ≤ 16) (hm8 : m ≤ 8) : Ev (fun k => token_value.f k s m b) (valR (numV b m 0 s.data.toList)) := by
  by_cases h : (s.size : Int) < (m : Int)
  · rw [numV_short b m 0 _ (by rw [len_eq]; omega)]
    refine Ev.congr (fun k => ?_) (Ev.now _)
    simp only [token_value.f]
    rw [if_pos h]
    rfl
  · have := value_loop s b m hb (by omega) hm8 m 0 0 (by omega) (by omega) pw_zero
    refine Ev.congr (fun k => ?_) this
    simp only [token_value.f]
    rw [if_neg h]
    rfl
theorem number_loop (s : ByteArray) (a b m : Nat) (hb : b ≤ 16) (hm : a + m ≤ s.size) (hs : s.size ≤ 140737488355328) (hm8 : m ≤ 8) : ∀ n i v, m - i = n → i ≤ m → v < pw i →
    Ev (fun k => scholiastref02_number.l0 k s a m b v ((a + i : Nat) : Int)) (numR (numV b n v (s.data.toList.drop (a + i))))
  | 0, i, v, hn, hi, hv => by
    have w0 : wrap64 ((a : Int) + (m : Int)) = ((a + m : Nat) : Int) := by rw [wrap_small (by omega) (by omega)]; omega
    refine Ev.step (f := fun _ => some (v : Int)) (fun k => ?_) (Ev.now _)
    simp only [scholiastref02_number.l0]
    rw [w0, if_neg (by omega)]
  | n + 1, i, v, hn, hi, hv => by
    have w0 : wrap64 ((a : Int) + (m : Int)) = ((a + m : Nat) : Int) := by rw [wrap_small (by omega) (by omega)]; omega
    have hlt : a + i < s.size := by omega
    have hlt' : a + i < s.data.toList.length := by rw [len_eq]; exact hlt
    obtain ⟨c, hc⟩ : ∃ c, s.data.toList[a + i] = c := ⟨_, rfl⟩
    have hbt : bt s ((a + i : Nat) : Int) = (c.toNat : Int) := by rw [bt_list s (a + i) hlt, hc]
    have hd : s.data.toList.drop (a + i) = c :: s.data.toList.drop (a + (i + 1)) := by rw [List.drop_eq_getElem_cons hlt', hc]; rfl
    rw [hd, numV]
    have hT := hx_is c
    have b5 : ((a + i : Nat) : Int) + 1 < 9223372036854775808 := by omega
    have b6 : (-9223372036854775808 : Int) ≤ ((a + i : Nat) : Int) + 1 := by omega
    have b7 : ((a + i : Nat) : Int) + 1 = ((a + (i + 1) : Nat) : Int) := by omega
    have step : ∀ {X}, Ev (fun k => (scholiastref02_Digit.f k (bt s ((a + i : Nat) : Int))).bind fun t186 => (if t186 ≥ (b : Int) then (some (-1)) else ((scholiastref02_Digit.f k (bt s ((a + i : Nat) : Int))).bind fun t187 => (scholiastref02_number.l0 k s a m b (wrap64 ((wrap64 ((v : Int) * (b : Int))) + t187)) (wrap64 (((a + i : Nat) : Int) + 1)))))) X → Ev (fun k => scholiastref02_number.l0 k s a m b v ((a + i : Nat) : Int)) X := by
      intro X hX
      refine Ev.step (fun k => ?_) hX
      simp only [scholiastref02_number.l0]
      rw [w0, if_pos (by omega), if_pos (by omega), if_pos (by omega)]
    refine step ?_
    rw [hbt]
    by_cases hcb : hx c < b
    · rw [if_pos hcb]
      have hp := pw_succ i
      have h16 := pow16 i (by omega)
      have hmul : v * b ≤ v * 16 := Nat.mul_le_mul_left v hb
      have ih := number_loop s a b m hb hm hs hm8 n (i + 1) (v * b + hx c) (by omega) (by omega) (by omega)
      have b0 : (-9223372036854775808 : Int) ≤ ((v * b : Nat) : Int) := by omega
      have b1 : ((v * b : Nat) : Int) < 9223372036854775808 := by omega
      have b2 : (-9223372036854775808 : Int) ≤ ((v * b : Nat) : Int) + (hx c : Int) := by omega
      have b3 : ((v * b : Nat) : Int) + (hx c : Int) < 9223372036854775808 := by omega
      refine Ev.bind (ref_digit_ev c) ?_
      have hge : ¬ dR (c.toNat : Int) ≥ (b : Int) := by omega
      simp only [if_neg hge]
      refine Ev.bind (ref_digit_ev c) ?_
      have w1 : wrap64 ((v : Int) * (b : Int)) = ((v * b : Nat) : Int) := by rw [← Int.natCast_mul, wrap_small b0 b1]
      have w2 : wrap64 (((v * b : Nat) : Int) + (hx c : Int)) = ((v * b + hx c : Nat) : Int) := by rw [wrap_small b2 b3]; exact (Int.natCast_add _ _).symm
      have w3 := (wrap_small b6 b5).trans b7
      rw [hT, w1, w2, w3]
      exact ih
    · rw [if_neg hcb]
      refine Ev.bind (ref_digit_ev c) ?_
      have hge : dR (c.toNat : Int) ≥ (b : Int) := by omega
      simp only [if_pos hge]
      exact Ev.now _
theorem number_is (s : ByteArray) (a m b : Nat) (hb : b ≤ 16) (hm8 : m ≤ 8) (hs : s.size ≤ 140737488355328) (ha : a ≤ s.size) : Ev (fun k => scholiastref02_number.f k s a m b) (numR (numV b m 0 (s.data.toList.drop a))) := by
  have w0 : wrap64 ((a : Int) + (m : Int)) = ((a + m : Nat) : Int) := by rw [wrap_small (by omega) (by omega)]; omega
  by_cases h : ((a + m : Nat) : Int) > (s.size : Int)
  · rw [numV_short b m 0 _ (by rw [List.length_drop, len_eq]; omega)]
    refine Ev.congr (fun k => ?_) (Ev.now _)
    simp only [scholiastref02_number.f]
    rw [w0, if_pos h]
    rfl
  · have := number_loop s a b m hb (by omega) hs hm8 m 0 0 (by omega) (by omega) pw_zero
    refine Ev.congr (fun k => ?_) this
    simp only [scholiastref02_number.f]
    rw [w0, if_neg h]
    rfl

/-! ### token.escape -/
def escR : Option (Nat × List UInt8 × Nat) → Int × ByteArray × Int × Bool
  | some (v, b, n) => (v, ofL b, n, true)
  | none => (0, ofL [], 0, false)
theorem index_simple (c : UInt8) : Lib.indexByte [97, 98, 116, 110, 118, 102, 114] c = match simpV c with | some v => (v : Int) - 7 | none => -1 := by
  have := all256 (fun c => decide (Lib.indexByte [97, 98, 116, 110, 118, 102, 114] c = match simpV c with | some v => (v : Int) - 7 | none => -1)) (by kernel_rfl) c
  exact of_decide_eq_true this
theorem simp_range (c : UInt8) (v : Nat) (h : simpV c = some v) : 7 ≤ v ∧ v ≤ 13 := by
  unfold simpV at h
  repeat' split at h
  all_goals first | (cases h; omega) | cases h
theorem nums_one (n : Int) (h : 0 ≤ n) : strOfNums [n] = ofL [UInt8.ofNat n.toNat] := by
  apply eq_ofL
  rw [strOfNums_data]
  rfl
theorem validRune_is (v : Nat) (h : v < 4294967296) : Ev (fun k => utf8_ValidRune.f k (wrap32 (mn (v : Int) 1073741824))) (Utf8.valid (v : Int)) := by
  have hmn : ∃ u : Nat, wrap32 (mn (v : Int) 1073741824) = (u : Int) ∧ (u = v ∨ (u = 1073741824 ∧ 1073741824 < v)) := by
    unfold mn wrap32
    split
    · exact ⟨1073741824, by omega, Or.inr ⟨rfl, by omega⟩⟩
    · exact ⟨v, by omega, Or.inl rfl⟩
  obtain ⟨u, hu, hcase⟩ := hmn
  rw [hu]
  have h2 : Utf8.valid (v : Int) = Utf8.valid (u : Int) := by
    rcases hcase with rfl | ⟨rfl, hv⟩
    · rfl
    · unfold Utf8.valid
      rw [Bool.eq_iff_iff]
      simp only [Bool.or_eq_true, Bool.and_eq_true, decide_eq_true_eq]
      omega
  rw [h2]
  refine Ev.of (k := 2) (fun k => utf8_ValidRune.mono _ k) ?_
  have ej : ∀ x b, utf8_ValidRune.j0 2 x b = if b = true then some true else if 57343 < x then (if x ≤ 1114111 then some true else some false) else some false := fun _ _ => rfl
  unfold utf8_ValidRune.f
  rw [if_pos (by omega), ej]
  unfold Utf8.valid
  by_cases c1 : (u : Int) < 55296
  · rw [if_pos (by simpa using c1)]
    refine congrArg some (Eq.symm ?_)
    simp only [Bool.or_eq_true, Bool.and_eq_true, decide_eq_true_eq]
    omega
  · rw [if_neg (by simpa using c1)]
    by_cases c2 : 57343 < (u : Int)
    · rw [if_pos c2]
      by_cases c3 : (u : Int) ≤ 1114111
      · rw [if_pos c3]
        refine congrArg some (Eq.symm ?_)
        simp only [Bool.or_eq_true, Bool.and_eq_true, decide_eq_true_eq]
        omega
      · rw [if_neg c3]
        refine congrArg some (Eq.symm ?_)
        rw [Bool.eq_false_iff]
        simp only [Bool.or_eq_true, Bool.and_eq_true, decide_eq_true_eq, ne_eq]
        omega
    · rw [if_neg c2]
      refine congrArg some (Eq.symm ?_)
      rw [Bool.eq_false_iff]
      simp only [Bool.or_eq_true, Bool.and_eq_true, decide_eq_true_eq, ne_eq]
      omega
theorem valid_lt {v : Nat} (h : Utf8.valid (v : Int) = true) : v ≤ 1114111 := by
  unfold Utf8.valid at h
  simp only [Bool.or_eq_true, Bool.and_eq_true, decide_eq_true_eq] at h
  omega
theorem esc_no (x9 x11 x12 : Int) : Ev (fun k => token_escape.j2 k x9 x11 x12 true) (escR none) := by
  refine Ev.step (f := fun _ => some (escR none)) (fun k => ?_) (Ev.now _)
  simp only [token_escape.j2]
  rw [if_pos (by trivial)]
  rfl
theorem esc_small (m : Nat) (sk : Nat) (hm : m < 4) (hsk : sk ≤ 1) (b : Nat) (hb : b ≤ 16) (s : ByteArray) (hs1 : sk ≤ s.size) :
    Ev (fun k => token_escape.j1 k s m b sk) (escR (smallV (numV b m 0 (s.data.toList.drop sk)) (m + sk))) := by
  have hv := value_is (s.extract sk s.size) m b hb (by omega)
  have hl : (s.extract sk s.size).data.toList = s.data.toList.drop sk := by
    rw [ext_list, List.take_of_length_le]
    rw [List.length_drop, len_eq]; omega
  rw [hl] at hv
  have step : ∀ {X}, Ev (fun k => (token_value.f k (s.extract sk s.size) m b).bind fun bt107 => (if bt107.2 = true then (if (m : Int) < 4 then (if bt107.1 > 255 then (token_escape.j2 k m sk bt107.1 (decide (bt107.1 > 255))) else (if (m : Int) ≥ 4 then ((utf8_ValidRune.f k (wrap32 (mn bt107.1 1073741824))).bind fun t109 => (token_escape.j2 k m sk bt107.1 (!t109))) else (token_escape.j2 k m sk bt107.1 false))) else (if (m : Int) ≥ 4 then ((utf8_ValidRune.f k (wrap32 (mn bt107.1 1073741824))).bind fun t110 => (token_escape.j2 k m sk bt107.1 (!t110))) else (token_escape.j2 k m sk bt107.1 false))) else (token_escape.j2 k m sk bt107.1 (!bt107.2)))) X → Ev (fun k => token_escape.j1 k s m b sk) X := by
    intro X hX
    refine Ev.step (fun k => ?_) hX
    simp only [token_escape.j1]
    rw [if_pos (by omega), if_pos (by omega)]
    rfl
  refine step ?_
  refine Ev.bind hv ?_
  have m4 : ((m : Int) < 4) = True := eq_true (by omega)
  have m4' : ((m : Int) ≥ 4) = False := eq_false (by omega)
  cases hn : numV b m 0 (s.data.toList.drop sk) with
  | none =>
    simp only [valR, Bool.false_eq_true, if_false, Bool.not_false]
    exact esc_no _ _ _
  | some v =>
    simp only [valR, if_true, m4, m4', if_false]
    by_cases h255 : (v : Int) > 255
    · simp only [if_pos h255]
      rw [smallV, if_neg (by omega)]
      have d : decide ((v : Int) > 255) = true := decide_eq_true h255
      exact Ev.congr (fun k => congrArg (token_escape.j2 k m sk v) d) (esc_no _ _ _)
    · simp only [if_neg h255]
      rw [smallV, if_pos (by omega)]
      refine Ev.step (f := fun _ => some (escR (some (v, [UInt8.ofNat v], m + sk)))) (fun k => ?_) (Ev.now _)
      simp only [token_escape.j2, m4, if_true, Bool.false_eq_true, if_false]
      have e1 : (v : Int) % 256 = v := by omega
      have e2 : wrap64 ((m : Int) + (sk : Int)) = ((m + sk : Nat) : Int) := by rw [wrap_small (by omega) (by omega)]; omega
      rw [e1, e2, nums_one _ (by omega)]
      rfl
theorem esc_big (m : Nat) (hm : 4 ≤ m) (hm8 : m ≤ 8) (s : ByteArray) (hs1 : 1 ≤ s.size) :
    Ev (fun k => token_escape.j1 k s m 16 1) (escR (bigV (numV 16 m 0 (s.data.toList.drop 1)) (m + 1))) := by
  have hv := value_is (s.extract 1 s.size) m 16 (by decide) hm8
  have hl : (s.extract 1 s.size).data.toList = s.data.toList.drop 1 := by
    rw [ext_list, List.take_of_length_le]
    rw [List.length_drop, len_eq]; omega
  rw [hl] at hv
  have step : ∀ {X}, Ev (fun k => (token_value.f k (s.extract 1 s.size) m 16).bind fun bt107 => (if bt107.2 = true then (if (m : Int) < 4 then (if bt107.1 > 255 then (token_escape.j2 k m 1 bt107.1 (decide (bt107.1 > 255))) else (if (m : Int) ≥ 4 then ((utf8_ValidRune.f k (wrap32 (mn bt107.1 1073741824))).bind fun t109 => (token_escape.j2 k m 1 bt107.1 (!t109))) else (token_escape.j2 k m 1 bt107.1 false))) else (if (m : Int) ≥ 4 then ((utf8_ValidRune.f k (wrap32 (mn bt107.1 1073741824))).bind fun t110 => (token_escape.j2 k m 1 bt107.1 (!t110))) else (token_escape.j2 k m 1 bt107.1 false))) else (token_escape.j2 k m 1 bt107.1 (!bt107.2)))) X → Ev (fun k => token_escape.j1 k s m 16 1) X := by
    intro X hX
    refine Ev.step (fun k => ?_) hX
    simp only [token_escape.j1]
    rw [if_pos (by omega), if_pos (by omega)]
    rfl
  refine step ?_
  refine Ev.bind hv ?_
  have m4 : ((m : Int) < 4) = False := eq_false (by omega)
  have m4' : ((m : Int) ≥ 4) = True := eq_true (by omega)
  cases hn : numV 16 m 0 (s.data.toList.drop 1) with
  | none =>
    simp only [valR, Bool.false_eq_true, if_false, Bool.not_false]
    exact esc_no _ _ _
  | some v =>
    simp only [valR, if_true, m4, m4', if_false]
    have hlt := numV_lt 16 (by decide) m 0 0 _ v (by omega) pw_zero hn
    have h16 := pw_le (0 + m) (by omega)
    refine Ev.bind (validRune_is v (by omega)) ?_
    cases hval : Utf8.valid (v : Int) with
    | false =>
      rw [bigV, if_neg (by rw [hval]; decide)]
      exact esc_no _ _ _
    | true =>
      rw [bigV, if_pos hval]
      have := valid_lt hval
      refine Ev.step (f := fun _ => some (escR (some (v, (Utf8.encode (v : Int)).data.toList, m + 1)))) (fun k => ?_) (Ev.now _)
      simp only [token_escape.j2, m4, Bool.not_true, Bool.false_eq_true, if_false]
      have e1 : wrap32 (v : Int) = v := by unfold wrap32; omega
      have e2 : wrap64 ((m : Int) + 1) = ((m + 1 : Nat) : Int) := by rw [wrap_small (by omega) (by omega)]; omega
      rw [e1, e2]
      simp only [escR]
      rw [← eq_ofL rfl]
theorem escape_is (s : ByteArray) (q : UInt8) : Ev (fun k => token_escape.f k s q.toNat) (escR (escV q s.data.toList)) := by
  cases hL : s.data.toList with
  | nil =>
    refine Ev.congr (fun k => ?_) (Ev.now _)
    simp only [token_escape.f]
    rw [if_pos (by rw [toList_eq]; exact hL)]
    rfl
  | cons c r =>
    have hsz : 0 < s.size := by have := len_eq s; rw [hL] at this; simp at this; omega
    have hbt : bt s 0 = (c.toNat : Int) := by rw [show (0 : Int) = ((0 : Nat) : Int) from rfl, bt_getD, hL]; rfl
    have hcl := byte_lt c
    have hne : ¬ s.toList = ([] : List UInt8) := by rw [toList_eq, hL]; simp
    have hidx : strings_IndexByte.f (⟨#[97, 98, 116, 110, 118, 102, 114]⟩ : ByteArray) (c.toNat : Int) = some (match simpV c with | some v => (v : Int) - 7 | none => -1) := by
      unfold strings_IndexByte.f
      rw [← index_simple c]
      congr 2
      simp
    have step : ∀ {X}, Ev (fun k => (if (match simpV c with | some v => (v : Int) - 7 | none => -1) ≥ 0 then (some (wrap64 (7 + (match simpV c with | some v => (v : Int) - 7 | none => -1)), strOfNums (([(wrap64 (7 + (match simpV c with | some v => (v : Int) - 7 | none => -1))) % 256] : List Int)), 1, true)) else (if (c.toNat : Int) = 92 then (token_escape.j0 k s 16 1 true) else (token_escape.j0 k s 16 1 ((c.toNat : Int) == (q.toNat : Int)))))) X → Ev (fun k => token_escape.f k s q.toNat) X := by
      intro X hX
      refine Ev.congr (fun k => ?_) hX
      simp only [token_escape.f]
      rw [if_neg hne, if_pos (by omega), hbt, hidx, Option.bind_some]
    refine step ?_
    rw [escV]
    cases hs : simpV c with
    | some v =>
      obtain ⟨hv1, hv2⟩ := simp_range c v hs
      have e : wrap64 (7 + ((v : Int) - 7)) = v := by rw [wrap_small (by omega) (by omega)]; omega
      have e1 : (v : Int) % 256 = v := by omega
      have hge : (v : Int) - 7 ≥ 0 := by omega
      simp only [if_pos hge, e, e1, nums_one _ (Int.natCast_nonneg v)]
      exact Ev.now _
    | none =>
      have hge : ¬ (-1 : Int) ≥ 0 := by decide
      simp only [if_neg hge]
      have yes : Ev (fun k => token_escape.j0 k s 16 1 true) (escR (some (c.toNat, [c], 1))) := by
        refine Ev.step (f := fun _ => some (escR (some (c.toNat, [c], 1)))) (fun k => ?_) (Ev.now _)
        simp only [token_escape.j0]
        rw [if_pos (by trivial), if_pos (by omega), if_pos (by omega), if_pos (by omega), hbt, wrap_small (by omega) (by omega)]
        have he : s.extract 0 1 = ofL [c] := eq_ofL (by rw [ext_list, hL]; rfl)
        rw [he]
        rfl
      have c92 : (c.toNat : Int) = 92 ↔ c = 92 := byte_is c 92 (by decide)
      have cq : ((c.toNat : Int) == (q.toNat : Int)) = decide (c = q) := by
        rw [Bool.eq_iff_iff]
        simp only [beq_iff_eq, decide_eq_true_eq]
        constructor
        · intro h
          exact UInt8.toNat_inj.1 (by omega)
        · rintro rfl; rfl
      by_cases h92 : c = 92
      · rw [if_pos (Or.inl h92)]
        simp only [if_pos (c92.2 h92)]
        exact yes
      · by_cases hq : c = q
        · rw [if_pos (Or.inr hq)]
          simp only [if_neg (fun h => h92 (c92.1 h)), cq, decide_eq_true hq]
          exact yes
        · rw [if_neg (fun h => h.elim h92 hq)]
          simp only [if_neg (fun h => h92 (c92.1 h)), cq, decide_eq_false hq]
          have dr : s.data.toList.drop 1 = r := by rw [hL]; rfl
          have d0 : s.data.toList.drop 0 = c :: r := by rw [hL]; rfl
          have step0 : ∀ {X}, Ev (fun k => (if (c.toNat : Int) = 120 then (token_escape.j1 k s 2 16 1) else (if (c.toNat : Int) = 117 then (token_escape.j1 k s 4 16 1) else (if (c.toNat : Int) = 85 then (token_escape.j1 k s 8 16 1) else (token_escape.j1 k s 3 8 0))))) X → Ev (fun k => token_escape.j0 k s 16 1 false) X := by
            intro X hX
            refine Ev.step (fun k => ?_) hX
            simp only [token_escape.j0]
            rw [if_neg (by decide), if_pos (by omega), hbt]
          refine step0 ?_
          have c120 : (c.toNat : Int) = 120 ↔ c = 120 := byte_is c 120 (by decide)
          have c117 : (c.toNat : Int) = 117 ↔ c = 117 := byte_is c 117 (by decide)
          have c85 : (c.toNat : Int) = 85 ↔ c = 85 := byte_is c 85 (by decide)
          by_cases h1 : c = 120
          · simp only [if_pos h1, if_pos (c120.2 h1)]
            have := esc_small 2 1 (by decide) (by decide) 16 (by decide) s (by omega)
            rw [dr] at this
            exact this
          · simp only [if_neg h1, if_neg (fun h => h1 (c120.1 h))]
            by_cases h2 : c = 117
            · simp only [if_pos h2, if_pos (c117.2 h2)]
              have := esc_big 4 (by decide) (by decide) s (by omega)
              rw [dr] at this
              exact this
            · simp only [if_neg h2, if_neg (fun h => h2 (c117.1 h))]
              by_cases h3 : c = 85
              · simp only [if_pos h3, if_pos (c85.2 h3)]
                have := esc_big 8 (by decide) (by decide) s (by omega)
                rw [dr] at this
                exact this
              · simp only [if_neg h3, if_neg (fun h => h3 (c85.1 h))]
                have := esc_small 3 0 (by decide) (by decide) 8 (by decide) s (by omega)
                rw [d0] at this
                exact this
end Go.Proofs.YtkpceagbjodbbaaDoor.Pure
/- What an escape says for the reference; what a text literal says for both. Own work. -/
namespace Go.Proofs.YtkpceagbjodbbaaDoor.Pure
open Go.RowKit Go.Proofs.YtkpceagbjodbbaaDoorW.PrintWords Go.Proofs.YtkpceagbjodbbaaDoor.PA Go.Proofs.YtkpceagbjodbbaaDoor.Ext Go.Proofs.YtkpceagbjodbbaaDoor.Plain
set_option linter.unusedVariables false
set_option linter.unusedSimpArgs false

/-! ### the reference's UTF8 -/
theorem p32 : (2 : Int) ^ 32 = 4294967296 := by decide
theorem and63 (x : Int) (h0 : 0 ≤ x) (h1 : x < 4294967296) : Go.bits .and .i64 x 63 = x % 64 :=
  bits_mask .i64 32 (by decide) (fun n a b => Go.IntWalk.i64_in n (by rw [p32] at b; omega)) 6 (by decide) x h0 (by rw [p32]; exact h1)
theorem utf8_is (v : Nat) (h : Utf8.valid (v : Int) = true) : scholiastref02_UTF8.f (v : Int) = some (Utf8.encode (v : Int)) := by
  have hle := valid_lt h
  have he : Utf8.encode (v : Int) = if v < 0x80 then ⟨#[UInt8.ofNat v]⟩ else if v < 0x800 then ⟨#[UInt8.ofNat (0xC0 + v / 64), UInt8.ofNat (0x80 + v % 64)]⟩ else if v < 0x10000 then ⟨#[UInt8.ofNat (0xE0 + v / 4096), UInt8.ofNat (0x80 + v / 64 % 64), UInt8.ofNat (0x80 + v % 64)]⟩ else ⟨#[UInt8.ofNat (0xF0 + v / 262144), UInt8.ofNat (0x80 + v / 4096 % 64), UInt8.ofNat (0x80 + v / 64 % 64), UInt8.ofNat (0x80 + v % 64)]⟩ := by
    unfold Utf8.encode
    simp only [h, if_true, Int.toNat_natCast]
  rw [he]
  unfold scholiastref02_UTF8.f
  have a1 := and63 (v : Int) (by omega) (by omega)
  have a2 := and63 ((v : Int) / 64) (by omega) (by omega)
  have a3 := and63 ((v : Int) / 4096) (by omega) (by omega)
  have one : ∀ (x : Int) (y : Nat), 0 ≤ x → x = (y : Int) → UInt8.ofNat x.toNat = UInt8.ofNat y := fun x y h0 h1 => by rw [h1, Int.toNat_natCast]
  have l1 : ∀ (a : Int) (b : UInt8), UInt8.ofNat a.toNat = b → strOfNums [a] = ⟨#[b]⟩ := fun a b h => by
    apply Eq.trans (eq_ofL (strOfNums_data _)); simp only [List.map_cons, List.map_nil, h]; rfl
  have l2 : ∀ (a b : Int) (x y : UInt8), UInt8.ofNat a.toNat = x → UInt8.ofNat b.toNat = y → strOfNums [a, b] = ⟨#[x, y]⟩ := fun a b x y h1 h2 => by
    apply Eq.trans (eq_ofL (strOfNums_data _)); simp only [List.map_cons, List.map_nil, h1, h2]; rfl
  have l3 : ∀ (a b c : Int) (x y z : UInt8), UInt8.ofNat a.toNat = x → UInt8.ofNat b.toNat = y → UInt8.ofNat c.toNat = z → strOfNums [a, b, c] = ⟨#[x, y, z]⟩ := fun a b c x y z h1 h2 h3 => by
    apply Eq.trans (eq_ofL (strOfNums_data _)); simp only [List.map_cons, List.map_nil, h1, h2, h3]; rfl
  have l4 : ∀ (a b c d : Int) (x y z u : UInt8), UInt8.ofNat a.toNat = x → UInt8.ofNat b.toNat = y → UInt8.ofNat c.toNat = z → UInt8.ofNat d.toNat = u → strOfNums [a, b, c, d] = ⟨#[x, y, z, u]⟩ := fun a b c d x y z u h1 h2 h3 h4 => by
    apply Eq.trans (eq_ofL (strOfNums_data _)); simp only [List.map_cons, List.map_nil, h1, h2, h3, h4]; rfl
  have w : ∀ x : Int, 0 ≤ x → x < 4294967296 → wrap64 x = x := fun x h0 h1 => wrap_small (by omega) (by omega)
  by_cases c1 : v < 128
  · simp only [eq_true (show (v : Int) < 128 by omega), eq_true c1, if_true]
    exact congrArg some (l1 _ _ (one _ _ (by omega) (by omega)))
  · by_cases c2 : v < 2048
    · simp only [eq_false (show ¬ (v : Int) < 128 by omega), eq_false c1, eq_true (show (v : Int) < 2048 by omega), eq_true c2, if_true, if_false]
      rw [a1, w _ (by omega) (by omega), w _ (by omega) (by omega)]
      exact congrArg some (l2 _ _ _ _ (one _ _ (by omega) (by omega)) (one _ _ (by omega) (by omega)))
    · by_cases c3 : v < 65536
      · simp only [eq_false (show ¬ (v : Int) < 128 by omega), eq_false c1, eq_false (show ¬ (v : Int) < 2048 by omega), eq_false c2, eq_true (show (v : Int) < 65536 by omega), eq_true c3, if_true, if_false]
        rw [a1, a2, w _ (by omega) (by omega), w _ (by omega) (by omega), w _ (by omega) (by omega)]
        exact congrArg some (l3 _ _ _ _ _ _ (one _ _ (by omega) (by omega)) (one _ _ (by omega) (by omega)) (one _ _ (by omega) (by omega)))
      · simp only [eq_false (show ¬ (v : Int) < 128 by omega), eq_false c1, eq_false (show ¬ (v : Int) < 2048 by omega), eq_false c2, eq_false (show ¬ (v : Int) < 65536 by omega), eq_false c3, if_false]
        rw [a1, a2, a3, w _ (by omega) (by omega), w _ (by omega) (by omega), w _ (by omega) (by omega), w _ (by omega) (by omega)]
        exact congrArg some (l4 _ _ _ _ _ _ _ _ (one _ _ (by omega) (by omega)) (one _ _ (by omega) (by omega)) (one _ _ (by omega) (by omega)) (one _ _ (by omega) (by omega)))

/-! ### the reference's Escape -/
def escQ : Option (Nat × List UInt8 × Nat) → Int × ByteArray × Int
  | some (v, b, n) => (v, ofL b, (n : Int) + 1)
  | none => (0, ofL [], 0)
def TS : List (Nat × Nat) := [(97, 7), (98, 8), (102, 12), (110, 10), (114, 13), (116, 9), (118, 11), (92, 92)]
def tsGo (c : Nat) : List (Nat × Nat) → Option Nat
  | [] => none
  | (a, v) :: r => if c = a then some v else tsGo c r
theorem ts_len : TS.length = 8 := rfl
theorem ts_bt : ((List.range 8).all fun i => decide (bt (⟨#[97, 98, 102, 110, 114, 116, 118, 92]⟩ : ByteArray) (i : Int) = ((TS.getD i (0, 0)).1 : Int)) && decide (rd [7, 8, 12, 10, 13, 9, 11, 92] (i : Int) = ((TS.getD i (0, 0)).2 : Int)) && decide ((TS.getD i (0, 0)).2 < 256)) = true := by kernel_rfl
theorem ts_simp (c : UInt8) : tsGo c.toNat TS = match simpV c with | some v => some v | none => if c = 92 then some 92 else none := by
  have := all256 (fun c => decide (tsGo c.toNat TS = match simpV c with | some v => some v | none => if c = 92 then some 92 else none)) (by kernel_rfl) c
  exact of_decide_eq_true this
theorem refesc_loop (s : ByteArray) (a : Int) (c : UInt8) (R : Int × ByteArray × Int)
    (hend : Ev (fun k => scholiastref02_Escape.l0 k s a c.toNat (⟨#[97, 98, 102, 110, 114, 116, 118, 92]⟩ : ByteArray) [7, 8, 12, 10, 13, 9, 11, 92] 8) R) : ∀ n i : Nat, 8 - i = n → i ≤ 8 →
    Ev (fun k => scholiastref02_Escape.l0 k s a c.toNat (⟨#[97, 98, 102, 110, 114, 116, 118, 92]⟩ : ByteArray) [7, 8, 12, 10, 13, 9, 11, 92] i) (match tsGo c.toNat (TS.drop i) with | some v => ((v : Int), ofL [UInt8.ofNat v], 2) | none => R)
  | 0, i, hn, hi => by
    have : i = 8 := by omega
    subst this
    exact hend
  | n + 1, i, hn, hi => by
    have hlt : i < TS.length := by rw [ts_len]; omega
    have hf := List.all_eq_true.1 ts_bt i (by simp; omega)
    have hg : TS.getD i (0, 0) = TS[i] := by rw [List.getD_eq_getElem?_getD, List.getElem?_eq_getElem hlt]; rfl
    rw [hg] at hf
    simp only [Bool.and_eq_true, decide_eq_true_eq] at hf
    obtain ⟨⟨f1, f2⟩, f3⟩ := hf
    rw [List.drop_eq_getElem_cons hlt]
    have ih := refesc_loop s a c R hend n (i + 1) (by omega) (by omega)
    have w3 : wrap64 ((i : Int) + 1) = ((i + 1 : Nat) : Int) := (wrap_small (by omega) (by omega)).trans (by omega)
    have g1 : ((i : Int) < (((⟨#[97, 98, 102, 110, 114, 116, 118, 92]⟩ : ByteArray).size : Nat) : Int)) := by rw [show (⟨#[97, 98, 102, 110, 114, 116, 118, 92]⟩ : ByteArray).size = 8 from rfl]; omega
    rcases hTi : TS[i] with ⟨x, v⟩
    rw [hTi] at f1 f2 f3
    simp only at f1 f2 f3
    rw [tsGo]
    by_cases hc : c.toNat = x
    · rw [if_pos hc]
      refine Ev.step (f := fun _ => some ((v : Int), ofL [UInt8.ofNat v], 2)) (fun k => ?_) (Ev.now _)
      simp only [scholiastref02_Escape.l0]
      rw [if_pos g1, if_pos (by omega), if_pos (by omega), if_pos (by simp; omega), f2]
      have e1 : (v : Int) % 256 = v := by omega
      rw [e1, nums_one _ (by omega)]
      rfl
    · rw [if_neg hc]
      refine Ev.step (fun k => ?_) ih
      simp only [scholiastref02_Escape.l0]
      rw [if_pos g1, if_pos (by omega), if_neg (by omega), w3]
theorem refesc_no (x13 x14 : Int) : Ev (fun k => scholiastref02_Escape.j2 k x13 x14 true) (escQ none) := by
  refine Ev.step (f := fun _ => some (escQ none)) (fun k => ?_) (Ev.now _)
  simp only [scholiastref02_Escape.j2]
  rw [if_pos (by trivial)]
  rfl
theorem refesc_small (t : Int) (o : Option Nat) (ht : numR o = t) : Ev (fun k => scholiastref02_Escape.j1 k t 4) (escQ (smallV o 3)) := by
  cases o with
  | none =>
    have ht' : t = -1 := ht.symm
    subst ht'
    refine Ev.step (fun k => ?_) (refesc_no (-1) 4)
    simp only [scholiastref02_Escape.j1]
    rw [if_pos (by decide)]
  | some v =>
    have ht' : t = (v : Int) := ht.symm
    subst ht'
    by_cases h : v ≤ 255
    · rw [smallV, if_pos h]
      refine Ev.step (f := fun k => scholiastref02_Escape.j2 k v 4 false) (fun k => ?_) (Ev.step (f := fun _ => some (escQ (some (v, [UInt8.ofNat v], 3)))) (fun k => ?_) (Ev.now _))
      · simp only [scholiastref02_Escape.j1]
        rw [if_neg (by omega), if_pos trivial, if_neg (by omega), if_neg (by omega), if_neg (by decide)]
      · simp only [scholiastref02_Escape.j2]
        have e1 : (v : Int) % 256 = v := by omega
        rw [if_neg (by decide), if_pos trivial, e1, nums_one _ (by omega)]
        rfl
    · rw [smallV, if_neg h]
      refine Ev.step (fun k => ?_) (refesc_no v 4)
      simp only [scholiastref02_Escape.j1]
      rw [if_neg (by omega), if_pos trivial, if_pos (by omega)]
theorem refesc_big (t : Int) (o : Option Nat) (ht : numR o = t) (m : Nat) (hm : 5 < m) : Ev (fun k => scholiastref02_Escape.j1 k t m) (escQ (bigV o (m - 1))) := by
  cases o with
  | none =>
    have ht' : t = -1 := ht.symm
    subst ht'
    refine Ev.step (fun k => ?_) (refesc_no (-1) m)
    simp only [scholiastref02_Escape.j1]
    rw [if_pos (by decide)]
  | some v =>
    have ht' : t = (v : Int) := ht.symm
    subst ht'
    have bad : Utf8.valid (v : Int) = false → ∀ {X}, Ev X (escQ none) → Ev X (escQ (bigV (some v) (m - 1))) := by
      intro h X hX
      rw [bigV, if_neg (by rw [h]; decide)]
      exact hX
    have hv : Utf8.valid (v : Int) = true ↔ v < 55296 ∨ (57344 ≤ v ∧ v ≤ 1114111) := by
      unfold Utf8.valid
      simp only [Bool.or_eq_true, Bool.and_eq_true, decide_eq_true_eq]
      omega
    have good : Utf8.valid (v : Int) = true → Ev (fun k => scholiastref02_Escape.j2 k v m false) (escQ (bigV (some v) (m - 1))) := by
      intro h
      rw [bigV, if_pos h]
      refine Ev.step (f := fun _ => some (escQ (some (v, (Utf8.encode (v : Int)).data.toList, m - 1)))) (fun k => ?_) (Ev.now _)
      simp only [scholiastref02_Escape.j2]
      rw [if_neg (by decide), if_neg (by omega), utf8_is v h, Option.bind_some]
      simp only [escQ]
      rw [← eq_ofL rfl]
      rw [show ((m - 1 : Nat) : Int) + 1 = m by omega]
    have d1 : ¬ (v : Int) < 0 := by omega
    have d2 : ¬ (m : Int) = 4 := by omega
    have d3 : (m : Int) > 4 := by omega
    by_cases h1 : v > 1114111
    · refine bad (Bool.eq_false_iff.mpr (fun h => by have := hv.1 h; omega)) (Ev.step (fun k => ?_) (refesc_no v m))
      simp only [scholiastref02_Escape.j1]
      rw [if_neg d1, if_neg d2, if_pos (by omega)]
    · by_cases h2 : v ≥ 55296
      · by_cases h3 : v ≤ 57343
        · refine bad (Bool.eq_false_iff.mpr (fun h => by have := hv.1 h; omega)) (Ev.step (fun k => ?_) (refesc_no v m))
          simp only [scholiastref02_Escape.j1]
          rw [if_neg d1, if_neg d2, if_neg (by omega), if_pos d3, if_pos (by omega), decide_eq_true (by omega)]
        · refine Ev.step (fun k => ?_) (good (hv.2 (by omega)))
          simp only [scholiastref02_Escape.j1]
          rw [if_neg d1, if_neg d2, if_neg (by omega), if_pos d3, if_pos (by omega), decide_eq_false (by omega)]
      · refine Ev.step (fun k => ?_) (good (hv.2 (by omega)))
        simp only [scholiastref02_Escape.j1]
        rw [if_neg d1, if_neg d2, if_neg (by omega), if_pos d3, if_neg (by omega)]
theorem refescape_is (s : ByteArray) (a : Nat) (q : UInt8) (hqs : ∀ c, c = q → ∀ v, simpV c ≠ some v) (hs : s.size ≤ 140737488355328) (ha : a < s.size) : Ev (fun k => scholiastref02_Escape.f k s a q.toNat) (escQ (escV q (s.data.toList.drop (a + 1)))) := by
  have w1 : wrap64 ((a : Int) + 1) = ((a + 1 : Nat) : Int) := (wrap_small (by omega) (by omega)).trans (by omega)
  have w2 : wrap64 ((a : Int) + 2) = ((a + 2 : Nat) : Int) := (wrap_small (by omega) (by omega)).trans (by omega)
  by_cases hlt : a + 1 < s.size
  · have hlt' : a + 1 < s.data.toList.length := by rw [len_eq]; exact hlt
    obtain ⟨c, hc⟩ : ∃ c, s.data.toList[a + 1] = c := ⟨_, rfl⟩
    have hbt : bt s ((a + 1 : Nat) : Int) = (c.toNat : Int) := by rw [bt_list s (a + 1) hlt, hc]
    have hd : s.data.toList.drop (a + 1) = c :: s.data.toList.drop (a + 2) := by rw [List.drop_eq_getElem_cons hlt', hc]
    have hcl := byte_lt c
    have cq : (c.toNat : Int) = (q.toNat : Int) ↔ c = q := ⟨fun h => UInt8.toNat_inj.1 (by omega), fun h => by rw [h]⟩
    have z1 : wrap64 (c.toNat : Int) = (c.toNat : Int) := wrap_small (by omega) (by omega)
    have e1 : UInt8.ofNat c.toNat = c := by simp
    rw [hd, escV]
    have r92 : tsGo c.toNat TS = match simpV c with | some v => some v | none => if c = 92 then some 92 else none := ts_simp c
    by_cases hq : c = q
    · have hqv : simpV c = none ∨ ∃ v, simpV c = some v := by cases simpV c with | none => exact Or.inl rfl | some v => exact Or.inr ⟨v, rfl⟩
      rcases hqv with hn | ⟨v, hn⟩
      · rw [hn]
        simp only [if_pos (Or.inr hq : c = 92 ∨ c = q)]
        refine Ev.congr (fun k => ?_) (Ev.now _)
        simp only [scholiastref02_Escape.f]
        rw [w1, if_neg (by omega), if_pos (by omega), if_pos (by omega), hbt, if_pos (cq.2 hq), z1, nums_one _ (by omega), Int.toNat_natCast, e1]
        rfl
      · exact absurd hn (hqs c hq v)
    · refine Ev.congr (f := fun k => scholiastref02_Escape.l0 k s a c.toNat (⟨#[97, 98, 102, 110, 114, 116, 118, 92]⟩ : ByteArray) [7, 8, 12, 10, 13, 9, 11, 92] ((0 : Nat) : Int)) (fun k => ?_) ?_
      · simp only [scholiastref02_Escape.f]
        rw [w1, if_neg (by omega), if_pos (by omega), if_pos (by omega), hbt, if_neg (fun h => hq (cq.1 h))]
        rfl
      · have key := fun R hend => refesc_loop s a c R hend 8 0 (by omega) (by omega)
        rw [List.drop_zero, r92] at key
        have hnum : ∀ (a' m b : Nat), b ≤ 16 → m ≤ 8 → a' ≤ s.size → Ev (fun k => scholiastref02_number.f k s a' m b) (numR (numV b m 0 (s.data.toList.drop a'))) := fun a' m b hb hm ha' => number_is s a' m b hb hm hs ha'
        have g8 : ¬ ((8 : Int) < (((⟨#[97, 98, 102, 110, 114, 116, 118, 92]⟩ : ByteArray).size : Nat) : Int)) := by rw [show (⟨#[97, 98, 102, 110, 114, 116, 118, 92]⟩ : ByteArray).size = 8 from rfl]; omega
        have c120 : (c.toNat : Int) = 120 ↔ c = 120 := byte_is c 120 (by decide)
        have c117 : (c.toNat : Int) = 117 ↔ c = 117 := byte_is c 117 (by decide)
        have c85 : (c.toNat : Int) = 85 ↔ c = 85 := byte_is c 85 (by decide)
        have hend : Ev (fun k => scholiastref02_Escape.l0 k s a c.toNat (⟨#[97, 98, 102, 110, 114, 116, 118, 92]⟩ : ByteArray) [7, 8, 12, 10, 13, 9, 11, 92] 8) (escQ (if c = 120 then smallV (numV 16 2 0 (s.data.toList.drop (a + 2))) 3 else if c = 117 then bigV (numV 16 4 0 (s.data.toList.drop (a + 2))) 5 else if c = 85 then bigV (numV 16 8 0 (s.data.toList.drop (a + 2))) 9 else smallV (numV 8 3 0 (c :: s.data.toList.drop (a + 2))) 3)) := by
          have st : ∀ {X}, Ev (fun k => if (c.toNat : Int) = 120 then ((scholiastref02_number.f k s ((a + 2 : Nat) : Int) 2 16).bind fun t211 => (scholiastref02_Escape.j1 k t211 4)) else (if (c.toNat : Int) = 117 then ((scholiastref02_number.f k s ((a + 2 : Nat) : Int) 4 16).bind fun t212 => (scholiastref02_Escape.j1 k t212 6)) else (if (c.toNat : Int) = 85 then ((scholiastref02_number.f k s ((a + 2 : Nat) : Int) 8 16).bind fun t213 => (scholiastref02_Escape.j1 k t213 10)) else ((scholiastref02_number.f k s ((a + 1 : Nat) : Int) 3 8).bind fun t214 => (scholiastref02_Escape.j1 k t214 4))))) X → Ev (fun k => scholiastref02_Escape.l0 k s a c.toNat (⟨#[97, 98, 102, 110, 114, 116, 118, 92]⟩ : ByteArray) [7, 8, 12, 10, 13, 9, 11, 92] 8) X := by
            intro X hX
            refine Ev.step (fun k => ?_) hX
            simp only [scholiastref02_Escape.l0]
            rw [if_neg g8, w1, w2]
          refine st ?_
          by_cases h1 : c = 120
          · simp only [if_pos h1, if_pos (c120.2 h1)]
            exact Ev.bind (hnum (a + 2) 2 16 (by decide) (by decide) (by omega)) (refesc_small _ _ rfl)
          · simp only [if_neg h1, if_neg (fun h => h1 (c120.1 h))]
            by_cases h2 : c = 117
            · simp only [if_pos h2, if_pos (c117.2 h2)]
              exact Ev.bind (hnum (a + 2) 4 16 (by decide) (by decide) (by omega)) (refesc_big _ _ rfl 6 (by decide))
            · simp only [if_neg h2, if_neg (fun h => h2 (c117.1 h))]
              by_cases h3 : c = 85
              · simp only [if_pos h3, if_pos (c85.2 h3)]
                exact Ev.bind (hnum (a + 2) 8 16 (by decide) (by decide) (by omega)) (refesc_big _ _ rfl 10 (by decide))
              · simp only [if_neg h3, if_neg (fun h => h3 (c85.1 h))]
                have := hnum (a + 1) 3 8 (by decide) (by decide) (by omega)
                rw [hd] at this
                exact Ev.bind this (refesc_small _ _ rfl)
        have fin := key _ hend
        cases hsv : simpV c with
        | some v =>
          rw [hsv] at fin
          exact fin
        | none =>
          rw [hsv] at fin
          by_cases h92 : c = 92
          · simp only [if_pos h92] at fin
            simp only [if_pos (Or.inl h92 : c = 92 ∨ c = q)]
            have e92 : escQ (some (c.toNat, [c], 1)) = (((92 : Nat) : Int), ofL [UInt8.ofNat 92], (2 : Int)) := by rw [h92]; rfl
            rw [e92]
            exact fin
          · simp only [if_neg h92] at fin
            simp only [if_neg (fun h => h.elim h92 hq : ¬ (c = 92 ∨ c = q))]
            exact fin
  · rw [List.drop_eq_nil_of_le (by rw [len_eq]; omega), escV]
    refine Ev.congr (fun k => ?_) (Ev.now _)
    simp only [scholiastref02_Escape.f]
    rw [w1, if_pos (by omega)]
    rfl
end Go.Proofs.YtkpceagbjodbbaaDoor.Pure
/- What a text literal says, for token and its reference. Own work. -/
namespace Go.Proofs.YtkpceagbjodbbaaDoor.Pure
open Go.RowKit Go.Proofs.YtkpceagbjodbbaaDoorW.PrintWords Go.Proofs.YtkpceagbjodbbaaDoor.PA Go.Proofs.YtkpceagbjodbbaaDoor.Ext Go.Proofs.YtkpceagbjodbbaaDoor.Plain
set_option linter.unusedVariables false
set_option linter.unusedSimpArgs false

/-! ### how many bytes an escape has -/
theorem numV_len (b : Nat) : ∀ n v L u, numV b n v L = some u → n ≤ L.length
  | 0, v, L, u, h => Nat.zero_le _
  | n + 1, v, [], u, h => by cases h
  | n + 1, v, c :: r, u, h => by
    rw [numV] at h
    split at h
    · have := numV_len b n _ r u h
      simp; omega
    · cases h
theorem enc_len (r : Int) : (Utf8.encode r).data.toList.length ≤ 4 := by
  unfold Utf8.encode
  simp only
  repeat' split
  all_goals simp
theorem escV_len (q : UInt8) (L : List UInt8) (v : Nat) (b : List UInt8) (n : Nat) (h : escV q L = some (v, b, n)) : 1 ≤ n ∧ n ≤ L.length ∧ b.length ≤ n := by
  have sm : ∀ o m, 1 ≤ m → smallV o m = some (v, b, n) → n = m ∧ b.length ≤ m ∧ ∃ u, o = some u := by
    intro o m hm h
    cases o with
    | none => cases h
    | some u =>
      rw [smallV] at h
      split at h
      · simp only [Option.some.injEq, Prod.mk.injEq] at h
        obtain ⟨rfl, rfl, rfl⟩ := h
        exact ⟨rfl, by simpa using hm, _, rfl⟩
      · cases h
  have bg : ∀ o m, 4 ≤ m → bigV o m = some (v, b, n) → n = m ∧ b.length ≤ m ∧ ∃ u, o = some u := by
    intro o m hm h
    cases o with
    | none => cases h
    | some u =>
      rw [bigV] at h
      split at h
      · simp only [Option.some.injEq, Prod.mk.injEq] at h
        obtain ⟨rfl, rfl, rfl⟩ := h
        exact ⟨rfl, by have := enc_len (u : Int); omega, _, rfl⟩
      · cases h
  cases L with
  | nil => cases h
  | cons c r =>
    rw [escV] at h
    split at h
    · cases h; exact ⟨by omega, by simp, by simp⟩
    · split at h
      · cases h; exact ⟨by omega, by simp, by simp⟩
      · split at h
        · obtain ⟨rfl, h2, u, h3⟩ := sm _ _ (by decide) h
          have := numV_len _ _ _ _ _ h3
          exact ⟨by omega, by simp; omega, h2⟩
        · split at h
          · obtain ⟨rfl, h2, u, h3⟩ := bg _ _ (by decide) h
            have := numV_len _ _ _ _ _ h3
            exact ⟨by omega, by simp; omega, h2⟩
          · split at h
            · obtain ⟨rfl, h2, u, h3⟩ := bg _ _ (by decide) h
              have := numV_len _ _ _ _ _ h3
              exact ⟨by omega, by simp; omega, h2⟩
            · obtain ⟨rfl, h2, u, h3⟩ := sm _ _ (by decide) h
              have := numV_len _ _ _ _ _ h3
              exact ⟨by omega, this, h2⟩

/-! ### between back quotes -/
def rawGo : List UInt8 → Option (List UInt8)
  | [] => none
  | c :: r => if c = 96 then (if r = [] then some [] else none) else (rawGo r).map (fun d => if c = 13 then d else c :: d)
theorem rawGo_is : ∀ l : List UInt8, l ≠ [] → rawGo l = if Lib.indexByte l 96 = (l.length : Int) - 1 then some (l.dropLast.filter (· != 13)) else none
  | [], h => absurd rfl h
  | [c], _ => by
    rw [rawGo]
    by_cases hc : c = 96
    · subst hc; rfl
    · rw [if_neg hc]
      have : Lib.indexByte [c] 96 = -1 := indexByte_not 96 [c] (by simp; exact fun h => hc h.symm)
      rw [this, if_neg (by simp)]
      rfl
  | c :: d :: r, _ => by
    have ih := rawGo_is (d :: r) (by simp)
    rw [rawGo]
    by_cases hc : c = 96
    · subst hc
      rw [if_pos rfl, if_neg (by simp), if_neg]
      rw [Lib.indexByte, if_pos (by rfl)]
      simp
      omega
    · rw [if_neg hc, ih]
      have hi : Lib.indexByte (c :: d :: r) 96 = if Lib.indexByte (d :: r) 96 == -1 then -1 else Lib.indexByte (d :: r) 96 + 1 := by
        rw [Lib.indexByte, if_neg (by simpa using hc)]
      rw [hi]
      have hge := Lib.indexByte_ge (d :: r) 96
      generalize Lib.indexByte (d :: r) 96 = j at hge
      have hl : ((c :: d :: r).length : Int) - 1 = ((d :: r).length : Int) := by simp
      have hl1 : (1 : Int) ≤ ((d :: r).length : Int) := by simp; omega
      rw [hl]
      by_cases hj : j = ((d :: r).length : Int) - 1
      · have h1 : ¬ (j == -1) = true := by rw [beq_iff_eq]; omega
        rw [if_pos hj, if_neg h1, if_pos (by omega), List.dropLast_cons_of_ne_nil (show (d :: r) ≠ [] by simp), List.filter_cons]
        by_cases h13 : c = 13
        · simp [h13]
        · simp [h13]
      · rw [if_neg hj]
        by_cases h1 : (j == -1) = true
        · rw [if_pos h1, if_neg (by omega)]; rfl
        · rw [if_neg h1, if_neg (by omega)]; rfl
def rawR (acc : List UInt8) : Option (List UInt8) → ByteArray × Int × Int
  | some d => (ofL (acc ++ d), 0, 0)
  | none => (ofL [], 106, 0)
theorem raw_loop (s : ByteArray) (hs : s.size ≤ 140737488355328) : ∀ (n i : Nat) (x5 : ByteArray), s.size - i = n → i ≤ s.size → x5.size ≤ i →
    Ev (fun k => scholiastref02_Unquote.l0 k s x5 i) (rawR x5.data.toList (rawGo (s.data.toList.drop i)))
  | 0, i, x5, hn, hi, h5 => by
    have e : s.data.toList.drop i = [] := List.drop_eq_nil_of_le (by rw [len_eq]; omega)
    rw [e]
    refine Ev.step (f := fun _ => some (rawR x5.data.toList none)) (fun k => ?_) (Ev.now _)
    simp only [scholiastref02_Unquote.l0]
    rw [if_neg (by omega)]
    rfl
  | n + 1, i, x5, hn, hi, h5 => by
    have hlt : i < s.size := by omega
    have hlt' : i < s.data.toList.length := by rw [len_eq]; exact hlt
    obtain ⟨c, hc⟩ : ∃ c, s.data.toList[i] = c := ⟨_, rfl⟩
    have hbt : bt s i = (c.toNat : Int) := by rw [bt_list s i hlt, hc]
    have hd : s.data.toList.drop i = c :: s.data.toList.drop (i + 1) := by rw [List.drop_eq_getElem_cons hlt', hc]
    have hnil : s.data.toList.drop (i + 1) = [] ↔ i + 1 = s.size := by rw [List.drop_eq_nil_iff, len_eq]; omega
    have c96 : (c.toNat : Int) = 96 ↔ c = 96 := byte_is c 96 (by decide)
    have c13 : (c.toNat : Int) = 13 ↔ c = 13 := byte_is c 13 (by decide)
    have he : (s.extract i (i + 1)).data.toList = [c] := by rw [ext_list, hd]; simp
    have hes : (s.extract i (i + 1)).size = 1 := by rw [← len_eq, he]; rfl
    have hna : (x5 ++ s.extract i (i + 1)).data.toList = x5.data.toList ++ [c] := by rw [append_list, he]
    have hns : (x5 ++ s.extract i (i + 1)).size = x5.size + 1 := by rw [← len_eq, hna, List.length_append, len_eq]; rfl
    have ihA := raw_loop s hs n (i + 1) x5 (by omega) (by omega) (by omega)
    have ihB := raw_loop s hs n (i + 1) (x5 ++ s.extract i (i + 1)) (by omega) (by omega) (by omega)
    have g1 : ((i : Int) < (s.size : Int)) = True := eq_true (by omega)
    have g2 : ((0 : Int) ≤ (i : Int)) = True := eq_true (by omega)
    have g3 : ((i : Int) ≤ ((i + 1 : Nat) : Int)) = True := eq_true (by omega)
    have g4 : (((i + 1 : Nat) : Int) ≤ (s.size : Int)) = True := eq_true (by omega)
    have g5 : (x5.size + (s.extract i (i + 1)).size ≤ 9223372036854775807) = True := eq_true (by omega)
    have w1 : wrap64 ((i : Int) + 1) = ((i + 1 : Nat) : Int) := (wrap_small (by omega) (by omega)).trans (by omega)
    have W1 := Aside0.mk w1
    clear w1
    rw [hd, rawGo]
    by_cases h96 : c = 96
    · rw [if_pos h96]
      by_cases hl : i + 1 = s.size
      · rw [if_pos (hnil.2 hl)]
        refine Ev.step (f := fun k => scholiastref02_Unquote.j2 k s x5 i true) (fun k => ?_) (Ev.step (f := fun _ => some (rawR x5.data.toList (some []))) (fun k => ?_) (Ev.now _))
        · simp only [scholiastref02_Unquote.l0, g1, g2, hbt, W1.out, if_true]
          rw [if_pos (c96.2 h96), beq_iff_eq.2 (by omega)]
        · simp only [scholiastref02_Unquote.j2, if_true]
          rw [rawR, List.append_nil, ← eq_ofL rfl]
      · rw [if_neg (fun h => hl (hnil.1 h))]
        refine Ev.step (f := fun k => scholiastref02_Unquote.j2 k s x5 i false) (fun k => ?_) (Ev.step (f := fun _ => some (rawR x5.data.toList none)) (fun k => ?_) (Ev.now _))
        · simp only [scholiastref02_Unquote.l0, g1, g2, hbt, W1.out, if_true]
          rw [if_pos (c96.2 h96), beq_eq_false_iff_ne.2 (by omega)]
        · simp only [scholiastref02_Unquote.j2, g1, g2, hbt, if_true, Bool.false_eq_true, if_false]
          rw [if_pos (c96.2 h96)]
          rfl
    · rw [if_neg h96]
      have st : ∀ {X}, Ev (fun k => scholiastref02_Unquote.j2 k s x5 i false) X → Ev (fun k => scholiastref02_Unquote.l0 k s x5 i) X := by
        intro X hX
        refine Ev.step (fun k => ?_) hX
        simp only [scholiastref02_Unquote.l0, g1, g2, hbt, W1.out, if_true]
        rw [if_neg (fun h => h96 (c96.1 h))]
      refine st ?_
      by_cases h13 : c = 13
      · have e : rawR x5.data.toList ((rawGo (s.data.toList.drop (i + 1))).map (fun d => if c = 13 then d else c :: d)) = rawR x5.data.toList (rawGo (s.data.toList.drop (i + 1))) := by
          cases rawGo (s.data.toList.drop (i + 1)) with
          | none => rfl
          | some d => simp [rawR, h13]
        rw [e]
        refine Ev.step (fun k => ?_) ihA
        simp only [scholiastref02_Unquote.j2, g1, g2, hbt, W1.out, if_true, Bool.false_eq_true, if_false]
        rw [if_neg (fun h => h96 (c96.1 h)), if_pos (c13.2 h13)]
      · have e : rawR x5.data.toList ((rawGo (s.data.toList.drop (i + 1))).map (fun d => if c = 13 then d else c :: d)) = rawR (x5 ++ s.extract i (i + 1)).data.toList (rawGo (s.data.toList.drop (i + 1))) := by
          rw [hna]
          cases rawGo (s.data.toList.drop (i + 1)) with
          | none => rfl
          | some d => simp [rawR, h13]
        rw [e]
        refine Ev.step (fun k => ?_) ihB
        simp only [scholiastref02_Unquote.j2, g1, g2, g3, g4, hbt, W1.out, if_true, Bool.false_eq_true, if_false, Int.toNat_natCast]
        rw [if_neg (fun h => h96 (c96.1 h)), if_neg (fun h => h13 (c13.1 h))]
        simp only [g5, if_true]

/-! ### in quotes: both -/
theorem quoted_both (s : ByteArray) (hs : s.size ≤ 140737488355328) : ∀ (n i : Nat) (acc : List UInt8), s.size - i ≤ n → i ≤ s.size → acc.length ≤ i →
    ∃ r, Ev (fun k => token_Unquote.l0 k s i acc) r ∧ Ev (fun k => scholiastref02_Unquote.l1 k s (ofL acc) i) r := by
  have stop : ∀ (i : Nat) (acc : List UInt8), ¬ i < s.size → ∃ r, Ev (fun k => token_Unquote.l0 k s i acc) r ∧ Ev (fun k => scholiastref02_Unquote.l1 k s (ofL acc) i) r := by
    intro i acc h
    refine ⟨(ofL [], 106, 0), ?_, ?_⟩
    · refine Ev.step (f := fun _ => some (ofL [], 106, 0)) (fun k => ?_) (Ev.now _)
      simp only [token_Unquote.l0]
      rw [if_neg h]
      rfl
    · refine Ev.step (f := fun k => scholiastref02_Unquote.j5 k s (ofL acc) i false) (fun k => ?_) (Ev.step (f := fun _ => some (ofL [], 106, 0)) (fun k => ?_) (Ev.now _))
      · simp only [scholiastref02_Unquote.l1]
        rw [if_neg (by omega)]
      · simp only [scholiastref02_Unquote.j5]
        rw [if_neg (by decide)]
        rfl
  intro n
  induction n with
  | zero => exact fun i acc hn hi ha => stop i acc (by omega)
  | succ n ihn =>
    intro i acc hn hi ha
    by_cases hlt : i < s.size
    · have hlt' : i < s.data.toList.length := by rw [len_eq]; exact hlt
      obtain ⟨c, hc⟩ : ∃ c, s.data.toList[i] = c := ⟨_, rfl⟩
      have hbt : bt s i = (c.toNat : Int) := by rw [bt_list s i hlt, hc]
      have hd : s.data.toList.drop i = c :: s.data.toList.drop (i + 1) := by rw [List.drop_eq_getElem_cons hlt', hc]
      have c10 : (c.toNat : Int) = 10 ↔ c = 10 := byte_is c 10 (by decide)
      have c34 : (c.toNat : Int) = 34 ↔ c = 34 := byte_is c 34 (by decide)
      have c92 : (c.toNat : Int) = 92 ↔ c = 92 := byte_is c 92 (by decide)
      have g1 : ((i : Int) < (s.size : Int)) = True := eq_true (by omega)
      have g2 : ((0 : Int) ≤ (i : Int)) = True := eq_true (by omega)
      have g3 : ((i : Int) ≤ ((i + 1 : Nat) : Int)) = True := eq_true (by omega)
      have g4 : (((i + 1 : Nat) : Int) ≤ (s.size : Int)) = True := eq_true (by omega)
      have hacc : (ofL acc).size = acc.length := ofL_size acc
      have w1 : wrap64 ((i : Int) + 1) = ((i + 1 : Nat) : Int) := (wrap_small (by omega) (by omega)).trans (by omega)
      have W1 := Aside0.mk w1
      clear w1
      by_cases h10 : c = 10
      · refine ⟨(ofL [], 106, 0), ?_, ?_⟩
        · refine Ev.step (f := fun _ => some (ofL [], 106, 0)) (fun k => ?_) (Ev.now _)
          simp only [token_Unquote.l0]
          rw [if_pos hlt, hbt, if_pos (c10.2 h10)]
          rfl
        · refine Ev.step (f := fun k => scholiastref02_Unquote.j5 k s (ofL acc) i false) (fun k => ?_) (Ev.step (f := fun _ => some (ofL [], 106, 0)) (fun k => ?_) (Ev.now _))
          · simp only [scholiastref02_Unquote.l1, g1, g2, if_true, hbt]
            rw [bne_eq_false_iff_eq.2 (c10.2 h10)]
          · simp only [scholiastref02_Unquote.j5]
            rw [if_neg (by decide)]
            rfl
      · have st : ∀ {X}, Ev (fun k => scholiastref02_Unquote.j5 k s (ofL acc) i true) X → Ev (fun k => scholiastref02_Unquote.l1 k s (ofL acc) i) X := by
          intro X hX
          refine Ev.step (fun k => ?_) hX
          simp only [scholiastref02_Unquote.l1, g1, g2, if_true, hbt]
          rw [bne_iff_ne.2 (fun h => h10 (c10.1 h))]
        by_cases h34 : c = 34
        · by_cases hl : i + 1 = s.size
          · refine ⟨(ofL acc, 0, 0), ?_, st ?_⟩
            · refine Ev.step (f := fun _ => some (ofL acc, 0, 0)) (fun k => ?_) (Ev.now _)
              simp only [token_Unquote.l0]
              rw [if_pos hlt, hbt, if_neg (fun h => h10 (c10.1 h)), if_pos (c34.2 h34), if_pos hl]
              rfl
            · refine Ev.step (f := fun _ => some (ofL acc, 0, 0)) (fun k => ?_) (Ev.now _)
              simp only [scholiastref02_Unquote.j5, g1, g2, if_true, hbt, W1.out]
              rw [if_pos (c34.2 h34), if_pos (by omega)]
          · refine ⟨(ofL [], 106, 0), ?_, st ?_⟩
            · refine Ev.step (f := fun _ => some (ofL [], 106, 0)) (fun k => ?_) (Ev.now _)
              simp only [token_Unquote.l0]
              rw [if_pos hlt, hbt, if_neg (fun h => h10 (c10.1 h)), if_pos (c34.2 h34), if_neg hl]
              rfl
            · refine Ev.step (f := fun _ => some (ofL [], 106, 0)) (fun k => ?_) (Ev.now _)
              simp only [scholiastref02_Unquote.j5, g1, g2, if_true, hbt, W1.out]
              rw [if_pos (c34.2 h34), if_neg (by omega)]
              rfl
        · by_cases h92 : c = 92
          · have hesc := escape_is (s.extract (i + 1) s.size) 34
            have hle : (s.extract (i + 1) s.size).data.toList = s.data.toList.drop (i + 1) := by
              rw [ext_list, List.take_of_length_le]
              rw [List.length_drop, len_eq]; omega
            rw [hle] at hesc
            have hq34 : ∀ c : UInt8, c = 34 → ∀ v, simpV c ≠ some v := by rintro c rfl v h; cases h
            have hrefe := refescape_is s i 34 hq34 hs hlt
            have q1 : ((34 : UInt8).toNat : Int) = 34 := rfl
            rw [q1] at hesc hrefe
            cases hE : escV 34 (s.data.toList.drop (i + 1)) with
            | none =>
              rw [hE] at hesc hrefe
              refine ⟨(ofL [], 108, i), ?_, st ?_⟩
              · refine Ev.step (f := fun k => (token_escape.f k (s.extract (i + 1) s.size) 34).bind fun b => if b.2.2.2 = true then (if acc.length + b.2.1.size ≤ 140737488355328 ∧ 0 ≤ b.2.2.1 ∧ (i : Int) + 1 + b.2.2.1 ≤ s.size then token_Unquote.l0 k s (i + 1 + b.2.2.1.toNat) (acc ++ b.2.1.data.toList) else none) else some (⟨#[]⟩, 108, i)) (fun k => ?_) ?_
                · simp only [token_Unquote.l0]
                  rw [if_pos hlt, hbt, if_neg (fun h => h10 (c10.1 h)), if_neg (fun h => h34 (c34.1 h)), if_pos (c92.2 h92)]
                · refine Ev.bind hesc ?_
                  simp only [escR, Bool.false_eq_true, if_false]
                  exact Ev.now _
              · refine Ev.step (f := fun k => (scholiastref02_Escape.f k s i 34).bind fun bt219 => (if bt219.2.2 = 0 then (some ((⟨#[]⟩ : ByteArray), 108, (i : Int))) else (if (ofL acc).size + bt219.2.1.size ≤ 9223372036854775807 then (scholiastref02_Unquote.l1 k s (ofL acc ++ bt219.2.1) (wrap64 ((i : Int) + bt219.2.2))) else (none)))) (fun k => ?_) ?_
                · simp only [scholiastref02_Unquote.j5, g1, g2, if_true, hbt]
                  rw [if_neg (fun h => h34 (c34.1 h)), if_pos (c92.2 h92)]
                · refine Ev.bind hrefe ?_
                  simp only [escQ, if_true]
                  exact Ev.now _
            | some t =>
              obtain ⟨v, b, m⟩ := t
              rw [hE] at hesc hrefe
              obtain ⟨m1, m2, m3⟩ := escV_len _ _ _ _ _ hE
              rw [List.length_drop, len_eq] at m2
              have hbs : (ofL b).size = b.length := ofL_size b
              obtain ⟨r, hr1, hr2⟩ := ihn (i + 1 + m) (acc ++ b) (by omega) (by omega) (by rw [List.length_append]; omega)
              refine ⟨r, ?_, st ?_⟩
              · refine Ev.step (f := fun k => (token_escape.f k (s.extract (i + 1) s.size) 34).bind fun b => if b.2.2.2 = true then (if acc.length + b.2.1.size ≤ 140737488355328 ∧ 0 ≤ b.2.2.1 ∧ (i : Int) + 1 + b.2.2.1 ≤ s.size then token_Unquote.l0 k s (i + 1 + b.2.2.1.toNat) (acc ++ b.2.1.data.toList) else none) else some (⟨#[]⟩, 108, i)) (fun k => ?_) ?_
                · simp only [token_Unquote.l0]
                  rw [if_pos hlt, hbt, if_neg (fun h => h10 (c10.1 h)), if_neg (fun h => h34 (c34.1 h)), if_pos (c92.2 h92)]
                · refine Ev.bind hesc ?_
                  have hcnd : acc.length + (ofL b).size ≤ 140737488355328 ∧ 0 ≤ (m : Int) ∧ (i : Int) + 1 + (m : Int) ≤ s.size := ⟨by omega, by omega, by omega⟩
                  simp only [escR, if_true, if_pos hcnd, Int.toNat_natCast, ofL_list]
                  exact hr1
              · refine Ev.step (f := fun k => (scholiastref02_Escape.f k s i 34).bind fun bt219 => (if bt219.2.2 = 0 then (some ((⟨#[]⟩ : ByteArray), 108, (i : Int))) else (if (ofL acc).size + bt219.2.1.size ≤ 9223372036854775807 then (scholiastref02_Unquote.l1 k s (ofL acc ++ bt219.2.1) (wrap64 ((i : Int) + bt219.2.2))) else (none)))) (fun k => ?_) ?_
                · simp only [scholiastref02_Unquote.j5, g1, g2, if_true, hbt]
                  rw [if_neg (fun h => h34 (c34.1 h)), if_pos (c92.2 h92)]
                · refine Ev.bind hrefe ?_
                  have hm0 : ¬ ((m : Int) + 1 = 0) := by omega
                  have hsz : (ofL acc).size + (ofL b).size ≤ 9223372036854775807 := by omega
                  have hap : ofL acc ++ ofL b = ofL (acc ++ b) := eq_ofL (by rw [append_list, ofL_list, ofL_list])
                  have wm : wrap64 ((i : Int) + ((m : Int) + 1)) = ((i + 1 + m : Nat) : Int) := (wrap_small (by omega) (by omega)).trans (by omega)
                  simp only [escQ, if_neg hm0, if_pos hsz, hap, wm]
                  exact hr2
          · obtain ⟨r, hr1, hr2⟩ := ihn (i + 1) (acc ++ [c]) (by omega) (by omega) (by rw [List.length_append]; simp; omega)
            have he : (s.extract i (i + 1)).data.toList = [c] := by rw [ext_list, hd]; simp
            have hes : (s.extract i (i + 1)).size = 1 := by rw [← len_eq, he]; rfl
            have hap : ofL acc ++ s.extract i (i + 1) = ofL (acc ++ [c]) := eq_ofL (by rw [append_list, ofL_list, he])
            have g5 : ((ofL acc).size + (s.extract i (i + 1)).size ≤ 9223372036854775807) = True := eq_true (by omega)
            refine ⟨r, ?_, st ?_⟩
            · refine Ev.step (fun k => ?_) hr1
              simp only [token_Unquote.l0]
              have ec : (c.toNat : Int).toNat.toUInt8 = c := by simp
              rw [if_pos hlt, hbt, if_neg (fun h => h10 (c10.1 h)), if_neg (fun h => h34 (c34.1 h)), if_neg (fun h => h92 (c92.1 h)), if_pos (by omega), ec]
            · refine Ev.step (fun k => ?_) hr2
              simp only [scholiastref02_Unquote.j5, g1, g2, g3, g4, if_true, hbt, W1.out, Int.toNat_natCast]
              rw [if_neg (fun h => h34 (c34.1 h)), if_neg (fun h => h92 (c92.1 h))]
              simp only [g5, if_true, hap]
    · exact stop i acc hlt
theorem unquote_both (s : ByteArray) (hs : s.size ≤ 140737488355328) : ∃ r, Ev (fun k => token_Unquote.f k s) r ∧ Ev (fun k => scholiastref02_Unquote.f k s) r := by
  cases hL : s.data.toList with
  | nil =>
    have h0 : s.size = 0 := by rw [← len_eq, hL]; rfl
    refine ⟨(ofL [], 106, 0), ?_, ?_⟩
    · refine Ev.congr (fun k => ?_) (Ev.now (ofL [], 106, 0))
      simp only [token_Unquote.f]
      rw [if_pos hs, if_neg (by omega), if_pos (Or.inl h0)]
      rfl
    · refine Ev.congr (f := fun k => scholiastref02_Unquote.j0 k s ⟨#[]⟩ false) (fun k => ?_) (Ev.step (f := fun k => scholiastref02_Unquote.j3 k s ⟨#[]⟩ true) (fun k => ?_) (Ev.step (f := fun _ => some (ofL [], 106, 0)) (fun k => ?_) (Ev.now _)))
      · simp only [scholiastref02_Unquote.f]
        rw [if_neg (by omega)]
      · simp only [scholiastref02_Unquote.j0]
        rw [if_neg (by decide), if_pos (by omega)]
      · simp only [scholiastref02_Unquote.j3]
        rw [if_pos (by trivial)]
        rfl
  | cons c t =>
    have hl := len_eq s
    rw [hL, List.length_cons] at hl
    have hbt : bt s 0 = (c.toNat : Int) := by rw [show (0 : Int) = ((0 : Nat) : Int) from rfl, bt_getD, hL]; rfl
    have c96 : (c.toNat : Int) = 96 ↔ c = 96 := byte_is c 96 (by decide)
    have c34 : (c.toNat : Int) = 34 ↔ c = 34 := byte_is c 34 (by decide)
    have h1d : s.data.toList.drop 1 = t := by rw [hL]; rfl
    by_cases h96 : c = 96
    · -- between back quotes
      have hraw := raw_loop s hs (s.size - 1) 1 ⟨#[]⟩ rfl (by omega) (Nat.zero_le _)
      rw [h1d] at hraw
      have href : Ev (fun k => scholiastref02_Unquote.f k s) (rawR [] (rawGo t)) := by
        refine Ev.congr (f := fun k => scholiastref02_Unquote.j0 k s ⟨#[]⟩ true) (fun k => ?_) (Ev.step (fun k => ?_) hraw)
        · simp only [scholiastref02_Unquote.f]
          rw [if_pos (by omega), if_pos (by omega), hbt, beq_iff_eq.2 (c96.2 h96)]
        · simp only [scholiastref02_Unquote.j0]
          rw [if_pos (by trivial)]
          rfl
      refine ⟨_, ?_, href⟩
      by_cases ht : t = []
      · have hsz : s.size = 1 := by rw [ht] at hl; simpa using hl.symm
        rw [ht]
        refine Ev.congr (fun k => ?_) (Ev.now _)
        simp only [token_Unquote.f]
        rw [if_pos hs, if_neg (by omega), if_pos (Or.inr (by rw [hbt, h96]; decide))]
        rfl
      · have hsz : 1 < s.size := by
          have : 0 < t.length := List.length_pos_iff.2 ht
          omega
        rw [rawGo_is t ht]
        have hx1 : (s.extract 1 s.size).data.toList = t := by
          rw [ext_list, h1d, List.take_of_length_le]; omega
        have hidx : strings_IndexByte.f (s.extract 1 s.size) 96 = some (Lib.indexByte t 96) := by
          unfold strings_IndexByte.f; rw [hx1]; rfl
        have hx2 : (s.extract 1 (s.size - 1)).data.toList = t.dropLast := by
          rw [ext_list, h1d, List.dropLast_eq_take]; congr 1; omega
        refine Ev.congr (fun k => ?_) (Ev.now _)
        simp only [token_Unquote.f]
        rw [if_pos hs, if_pos ⟨hsz, by rw [hbt, h96]; rfl⟩, hidx, Option.bind_some]
        by_cases hi : Lib.indexByte t 96 = (t.length : Int) - 1
        · rw [if_pos hi, if_pos (by omega)]
          unfold dropR
          rw [hx2]
          rfl
        · rw [if_neg hi, if_neg (by omega)]
          rfl
    · by_cases h34 : c = 34
      · obtain ⟨r, hr1, hr2⟩ := quoted_both s hs s.size 1 [] (by omega) (by omega) (Nat.zero_le _)
        refine ⟨r, ?_, ?_⟩
        · refine Ev.congr (fun k => ?_) hr1
          simp only [token_Unquote.f]
          rw [if_pos hs, if_neg (fun h => h96 (c96.1 (by rw [← hbt]; exact h.2))), if_neg (by rintro (h | h); · omega
                                                                                              · exact h (by rw [hbt, h34]; rfl))]
        · refine Ev.congr (f := fun k => scholiastref02_Unquote.j0 k s ⟨#[]⟩ false) (fun k => ?_) (Ev.step (f := fun k => scholiastref02_Unquote.j3 k s ⟨#[]⟩ false) (fun k => ?_) (Ev.step (fun k => ?_) hr2))
          · simp only [scholiastref02_Unquote.f]
            rw [if_pos (by omega), if_pos (by omega), hbt, beq_eq_false_iff_ne.2 (fun h => h96 (c96.1 h))]
          · simp only [scholiastref02_Unquote.j0]
            rw [if_neg (by decide), if_neg (by omega), if_pos (by omega), hbt, bne_eq_false_iff_eq.2 (c34.2 h34)]
          · simp only [scholiastref02_Unquote.j3]
            rw [if_neg (by decide)]
            rfl
      · refine ⟨(ofL [], 106, 0), ?_, ?_⟩
        · refine Ev.congr (fun k => ?_) (Ev.now (ofL [], 106, 0))
          simp only [token_Unquote.f]
          rw [if_pos hs, if_neg (fun h => h96 (c96.1 (by rw [← hbt]; exact h.2))), if_pos (Or.inr (fun h => h34 (c34.1 (by rw [← hbt]; exact h))))]
          rfl
        · refine Ev.congr (f := fun k => scholiastref02_Unquote.j0 k s ⟨#[]⟩ false) (fun k => ?_) (Ev.step (f := fun k => scholiastref02_Unquote.j3 k s ⟨#[]⟩ true) (fun k => ?_) (Ev.step (f := fun _ => some (ofL [], 106, 0)) (fun k => ?_) (Ev.now _)))
          · simp only [scholiastref02_Unquote.f]
            rw [if_pos (by omega), if_pos (by omega), hbt, beq_eq_false_iff_ne.2 (fun h => h96 (c96.1 h))]
          · simp only [scholiastref02_Unquote.j0]
            rw [if_neg (by decide), if_neg (by omega), if_pos (by omega), hbt, bne_iff_ne.2 (fun h => h34 (c34.1 h))]
          · simp only [scholiastref02_Unquote.j3]
            rw [if_pos (by trivial)]
            rfl
end Go.Proofs.YtkpceagbjodbbaaDoor.Pure
