/- What the printed functions of token and its reference compute: words and signs. Own work. -/
import Derived.Test.YtkpceagbjodbbaaDoorPA10
import Derived.Test.YtkpceagbjodbbaaDoorPA11
import Derived.Test.YtkpceagbjodbbaaDoorPA4
import Derived.Test.YtkpceagbjodbbaaDoorPA7
import Derived.Test.YtkpceagbjodbbaaDoorPlain
import Derived.Test.YtkpceagbjodbbaaDoorPlain
import Derived.KernelRfl
namespace Go.Proofs.YtkpceagbjodbbaaDoor.Pure
open Go.RowKit Go.Proofs.YtkpceagbjodbbaaDoorW.PrintWords Go.Proofs.YtkpceagbjodbbaaDoor.PA Go.Proofs.YtkpceagbjodbbaaDoor.Ext Go.Proofs.YtkpceagbjodbbaaDoor.Plain
set_option linter.unusedVariables false
set_option linter.unusedSimpArgs false

theorem wrap_small {i : Int} (h0 : -9223372036854775808 ≤ i) (h : i < 9223372036854775808) : wrap64 i = i := by unfold wrap64; omega
theorem toList_eq (s : ByteArray) : s.toList = s.data.toList := Lib.toList_data s
theorem len_eq (s : ByteArray) : s.data.toList.length = s.size := by rw [Array.length_toList]; rfl
theorem ext_list (s : ByteArray) (a b : Nat) : (s.extract a b).data.toList = (s.data.toList.drop a).take (b - a) := by
  rw [← toList_eq]; exact Lib.extract_toList s a b
theorem bt_list (s : ByteArray) (i : Nat) (h : i < s.size) : bt s i = ((s.data.toList[i]'(by rw [len_eq]; exact h)).toNat : Int) := by
  unfold bt
  rw [dif_pos (by simpa using h)]
  simp
  rfl
theorem bt_getD (s : ByteArray) (i : Nat) : bt s i = ((s.data.toList.getD i 0).toNat : Int) := by
  by_cases h : i < s.size
  · rw [bt_list s i h, List.getD_eq_getElem?_getD, List.getElem?_eq_getElem (by rw [len_eq]; exact h)]
    rfl
  · unfold bt
    rw [dif_neg (by simpa using h), List.getD_eq_getElem?_getD, List.getElem?_eq_none (by rw [len_eq]; omega)]
    rfl
theorem rdOf_at {α : Type} (d : α) (xs : List α) (i : Nat) (h : i < xs.length) : rdOf d xs (i : Int) = xs[i] := by
  unfold rdOf
  simp [h]

/-! ### HasPrefix -/
theorem prefix_is (a p : ByteArray) : stringslite_HasPrefix.f a p = some (p.data.toList.isPrefixOf a.data.toList) := by
  unfold stringslite_HasPrefix.f
  by_cases h : (a.size : Int) ≥ (p.size : Int)
  · rw [if_pos h, if_pos (by omega), if_pos (by omega)]
    congr 1
    have e : (a.extract 0 p.size).toList = a.data.toList.take p.size := by rw [toList_eq, ext_list]; simp
    first
      | rw [e, toList_eq]
      | (rw [show ((p.size : Int) : Int).toNat = p.size by simp, e, toList_eq])
    rw [Bool.eq_iff_iff, beq_iff_eq, List.isPrefixOf_iff_prefix, List.prefix_iff_eq_take, len_eq]
    exact eq_comm
  · rw [if_neg h]
    congr 1
    symm
    rw [Bool.eq_false_iff]
    intro hp
    have := (List.isPrefixOf_iff_prefix.1 hp).length_le
    rw [len_eq, len_eq] at this
    omega
theorem hasPrefix_is (a p : ByteArray) : strings_HasPrefix.f a p = some (p.data.toList.isPrefixOf a.data.toList) := by
  unfold strings_HasPrefix.f
  rw [prefix_is]
  rfl

/-! ### Operator -/
/-- The longest sign of a list that a text begins with, from the i-th on. -/
def opGo (L : List UInt8) : List ByteArray → Nat → Int → Int → Int × Int
  | [], _, k, w => (k, w)
  | s :: r, i, k, w => if (s.size : Int) > w ∧ s.data.toList.isPrefixOf L = true then opGo L r (i + 1) (20 + i) s.size else opGo L r (i + 1) k w
theorem op_loop (a0 : ByteArray) (xs : List ByteArray) (hx : xs.length < 1000) : ∀ (n i : Nat) (x4 x5 : Int), xs.length - i = n → i ≤ xs.length → Ev (fun k => token_Operator.l0 k a0 x4 x5 xs xs.length i) (opGo a0.data.toList (xs.drop i) i x4 x5)
  | 0, i, x4, x5, hn, hi => by
    have : i = xs.length := by omega
    subst this
    rw [List.drop_length]
    refine Ev.step (f := fun _ => some (x4, x5)) (fun k => ?_) (Ev.now _)
    simp only [token_Operator.l0]
    rw [if_neg (by omega)]
  | n + 1, i, x4, x5, hn, hi => by
    have hlt : i < xs.length := by omega
    rw [List.drop_eq_getElem_cons hlt, opGo]
    have hw : wrap64 ((i : Int) + 1) = ((i + 1 : Nat) : Int) := by rw [wrap_small (by omega) (by omega)]; omega
    have hw2 : wrap64 (20 + (i : Int)) = 20 + (i : Int) := wrap_small (by omega) (by omega)
    have i1 := op_loop a0 xs hx n (i + 1) x4 x5 (by omega) (by omega)
    have i2 := op_loop a0 xs hx n (i + 1) (20 + i) xs[i].size (by omega) (by omega)
    by_cases h1 : (xs[i].size : Int) > x5
    · by_cases h2 : xs[i].data.toList.isPrefixOf a0.data.toList = true
      · rw [if_pos ⟨h1, h2⟩]
        refine Ev.step (fun k => ?_) i2
        simp only [token_Operator.l0]
        rw [if_pos (by omega), if_pos (by omega), if_pos (by omega), rdOf_at _ _ _ hlt, if_pos h1, hasPrefix_is, Option.bind_some, if_pos h2, hw, hw2]
      · rw [if_neg (fun h => h2 h.2)]
        refine Ev.step (fun k => ?_) i1
        simp only [token_Operator.l0]
        rw [if_pos (by omega), if_pos (by omega), if_pos (by omega), rdOf_at _ _ _ hlt, if_pos h1, hasPrefix_is, Option.bind_some, if_neg h2, hw]
    · rw [if_neg (fun h => h1 h.1)]
      refine Ev.step (fun k => ?_) i1
      simp only [token_Operator.l0]
      rw [if_pos (by omega), if_pos (by omega), if_pos (by omega), rdOf_at _ _ _ hlt, if_neg h1, hw]
theorem ref_op_loop (a0 : ByteArray) (xs : List ByteArray) (hx : xs.length < 1000) : ∀ (n i : Nat) (x4 x5 : Int), xs.length - i = n → i ≤ xs.length → Ev (fun k => scholiastref02_Operator.l0 k a0 x4 x5 xs xs.length i) (opGo a0.data.toList (xs.drop i) i x4 x5)
  | 0, i, x4, x5, hn, hi => by
    have : i = xs.length := by omega
    subst this
    rw [List.drop_length]
    refine Ev.step (f := fun _ => some (x4, x5)) (fun k => ?_) (Ev.now _)
    simp only [scholiastref02_Operator.l0]
    rw [if_neg (by omega)]
  | n + 1, i, x4, x5, hn, hi => by
    have hlt : i < xs.length := by omega
    rw [List.drop_eq_getElem_cons hlt, opGo]
    have hw : wrap64 ((i : Int) + 1) = ((i + 1 : Nat) : Int) := by rw [wrap_small (by omega) (by omega)]; omega
    have hw2 : wrap64 (20 + (i : Int)) = 20 + (i : Int) := wrap_small (by omega) (by omega)
    have i1 := ref_op_loop a0 xs hx n (i + 1) x4 x5 (by omega) (by omega)
    have i2 := ref_op_loop a0 xs hx n (i + 1) (20 + i) xs[i].size (by omega) (by omega)
    by_cases h1 : (xs[i].size : Int) > x5
    · by_cases hs : (xs[i].size : Int) ≤ (a0.size : Int)
      · have e : (a0.extract 0 xs[i].size).toList = xs[i].toList ↔ xs[i].data.toList.isPrefixOf a0.data.toList = true := by
          rw [toList_eq, toList_eq, ext_list, List.isPrefixOf_iff_prefix, List.prefix_iff_eq_take, len_eq]
          simp
          exact eq_comm
        by_cases h2 : xs[i].data.toList.isPrefixOf a0.data.toList = true
        · rw [if_pos ⟨h1, h2⟩]
          refine Ev.step (fun k => ?_) i2
          simp only [scholiastref02_Operator.l0]
          rw [if_pos (by omega), if_pos (by omega), if_pos (by omega), rdOf_at _ _ _ hlt, if_pos h1, if_pos hs, if_pos (by omega), if_pos (e.2 h2), hw, hw2]
        · rw [if_neg (fun h => h2 h.2)]
          refine Ev.step (fun k => ?_) i1
          simp only [scholiastref02_Operator.l0]
          rw [if_pos (by omega), if_pos (by omega), if_pos (by omega), rdOf_at _ _ _ hlt, if_pos h1, if_pos hs, if_pos (by omega), if_neg (fun h => h2 (e.1 h)), hw]
      · have h2 : ¬ xs[i].data.toList.isPrefixOf a0.data.toList = true := fun hp => by
          have := (List.isPrefixOf_iff_prefix.1 hp).length_le
          rw [len_eq, len_eq] at this
          omega
        rw [if_neg (fun h => h2 h.2)]
        refine Ev.step (fun k => ?_) i1
        simp only [scholiastref02_Operator.l0]
        rw [if_pos (by omega), if_pos (by omega), if_pos (by omega), rdOf_at _ _ _ hlt, if_pos h1, if_neg hs, hw]
    · rw [if_neg (fun h => h1 h.1)]
      refine Ev.step (fun k => ?_) i1
      simp only [scholiastref02_Operator.l0]
      rw [if_pos (by omega), if_pos (by omega), if_pos (by omega), rdOf_at _ _ _ hlt, if_neg h1, hw]
/-- The signs, in the order of their kinds. -/
def SG : List ByteArray := token_signs.f.getD []
theorem signs_is : token_signs.f = some SG := by kernel_rfl
theorem ref_signs_is : scholiastref02_Signs.f 400 = some SG := by kernel_rfl
def opOf (L : List UInt8) : Int × Int := if [59].isPrefixOf L = true then (15, 1) else opGo L SG 0 0 0
theorem operator_is (a0 : ByteArray) : Ev (fun k => token_Operator.f k a0) (opOf a0.data.toList) := by
  unfold opOf
  by_cases h : ([59] : List UInt8).isPrefixOf a0.data.toList = true
  · rw [if_pos h]
    refine Ev.congr (fun k => ?_) (Ev.now _)
    simp only [token_Operator.f]
    rw [hasPrefix_is, Option.bind_some, if_pos h]
  · rw [if_neg h]
    refine Ev.congr (fun k => ?_) (op_loop a0 SG (by decide) 46 0 0 0 (by decide) (by decide))
    simp only [token_Operator.f]
    rw [hasPrefix_is, Option.bind_some, if_neg h, signs_is, Option.bind_some]
    rfl
theorem head59 (a0 : ByteArray) (h : 0 < a0.size) : (bt a0 0 == 59) = ([59] : List UInt8).isPrefixOf a0.data.toList := by
  have hb := bt_getD a0 0
  have hl := len_eq a0
  rw [show ((0 : Nat) : Int) = 0 from rfl] at hb
  rw [hb]
  cases hL : a0.data.toList with
  | nil => rw [hL] at hl; simp at hl; omega
  | cons c r =>
    rw [isPrefixOf_one, Bool.eq_iff_iff]
    simp only [beq_iff_eq, List.getD_cons_zero]
    constructor
    · intro e
      apply UInt8.toNat_inj.1
      have : c.toNat = 59 := by omega
      rw [this]
      rfl
    · rintro rfl
      rfl
theorem ref_operator_is (a0 : ByteArray) : Ev (fun k => scholiastref02_Operator.f k a0) (opOf a0.data.toList) := by
  have hs : Ev (fun k => scholiastref02_Signs.f k) SG := Ev.of (fun k => scholiastref02_Signs.mono k) ref_signs_is
  have hl := ref_op_loop a0 SG (by decide) 46 0 0 0 (by decide) (by decide)
  have hg : Ev (fun k => scholiastref02_Operator.j0 k a0 0 0 false) (opGo a0.data.toList SG 0 0 0) := by
    refine Ev.step (f := fun k => (scholiastref02_Signs.f k).bind fun t => scholiastref02_Operator.l0 k a0 0 0 t t.length 0) (fun k => ?_) (Ev.bind hs hl)
    simp only [scholiastref02_Operator.j0]
    rw [if_neg (by decide)]
  unfold opOf
  by_cases h0 : (a0.size : Int) > 0
  · by_cases h : ([59] : List UInt8).isPrefixOf a0.data.toList = true
    · rw [if_pos h]
      have : Ev (fun k => scholiastref02_Operator.j0 k a0 0 0 true) (15, 1) := by
        refine Ev.step (f := fun _ => some (15, 1)) (fun k => ?_) (Ev.now _)
        simp only [scholiastref02_Operator.j0]
        rw [if_pos trivial]
      refine Ev.congr (fun k => ?_) this
      simp only [scholiastref02_Operator.f]
      rw [if_pos h0, if_pos (by omega), head59 a0 (by omega), h]
    · rw [if_neg h]
      refine Ev.congr (fun k => ?_) hg
      simp only [scholiastref02_Operator.f]
      rw [if_pos h0, if_pos (by omega), head59 a0 (by omega), Bool.eq_false_iff.mpr h]
  · have h : ¬ ([59] : List UInt8).isPrefixOf a0.data.toList = true := fun hp => by
      have := (List.isPrefixOf_iff_prefix.1 hp).length_le
      rw [len_eq] at this
      simp at this
      omega
    rw [if_neg h]
    refine Ev.congr (fun k => ?_) hg
    simp only [scholiastref02_Operator.f]
    rw [if_neg h0]

/-! ### Keyword -/
def kwGo (L : List UInt8) : List ByteArray → Nat → Int
  | [], _ => 0
  | s :: r, i => if s.data.toList = L then 70 + i else kwGo L r (i + 1)
theorem kw_loop (a0 : ByteArray) (xs : List ByteArray) (hx : xs.length < 1000) : ∀ (n i : Nat), xs.length - i = n → i ≤ xs.length → Ev (fun k => token_Keyword.l0 k a0 xs xs.length i) (kwGo a0.data.toList (xs.drop i) i)
  | 0, i, hn, hi => by
    have : i = xs.length := by omega
    subst this
    rw [List.drop_length]
    refine Ev.step (f := fun _ => some 0) (fun k => ?_) (Ev.now _)
    simp only [token_Keyword.l0]
    rw [if_neg (by omega)]
  | n + 1, i, hn, hi => by
    have hlt : i < xs.length := by omega
    rw [List.drop_eq_getElem_cons hlt, kwGo]
    have hw : wrap64 ((i : Int) + 1) = ((i + 1 : Nat) : Int) := by rw [wrap_small (by omega) (by omega)]; omega
    have hw2 : wrap64 (70 + (i : Int)) = 70 + (i : Int) := wrap_small (by omega) (by omega)
    by_cases h1 : xs[i].data.toList = a0.data.toList
    · rw [if_pos h1]
      refine Ev.step (f := fun _ => some (70 + (i : Int))) (fun k => ?_) (Ev.now _)
      simp only [token_Keyword.l0]
      rw [if_pos (by omega), if_pos (by omega), if_pos (by omega), rdOf_at _ _ _ hlt, toList_eq, toList_eq, if_pos h1, hw2]
    · rw [if_neg h1]
      refine Ev.step (fun k => ?_) (kw_loop a0 xs hx n (i + 1) (by omega) (by omega))
      simp only [token_Keyword.l0]
      rw [if_pos (by omega), if_pos (by omega), if_pos (by omega), rdOf_at _ _ _ hlt, toList_eq, toList_eq, if_neg h1, hw]
theorem ref_kw_loop (a0 : ByteArray) (xs : List ByteArray) (hx : xs.length < 1000) : ∀ (n i : Nat), xs.length - i = n → i ≤ xs.length → Ev (fun k => scholiastref02_Keyword.l0 k a0 xs xs.length i) (kwGo a0.data.toList (xs.drop i) i)
  | 0, i, hn, hi => by
    have : i = xs.length := by omega
    subst this
    rw [List.drop_length]
    refine Ev.step (f := fun _ => some 0) (fun k => ?_) (Ev.now _)
    simp only [scholiastref02_Keyword.l0]
    rw [if_neg (by omega)]
  | n + 1, i, hn, hi => by
    have hlt : i < xs.length := by omega
    rw [List.drop_eq_getElem_cons hlt, kwGo]
    have hw : wrap64 ((i : Int) + 1) = ((i + 1 : Nat) : Int) := by rw [wrap_small (by omega) (by omega)]; omega
    have hw2 : wrap64 (70 + (i : Int)) = 70 + (i : Int) := wrap_small (by omega) (by omega)
    by_cases h1 : xs[i].data.toList = a0.data.toList
    · rw [if_pos h1]
      refine Ev.step (f := fun _ => some (70 + (i : Int))) (fun k => ?_) (Ev.now _)
      simp only [scholiastref02_Keyword.l0]
      rw [if_pos (by omega), if_pos (by omega), if_pos (by omega), rdOf_at _ _ _ hlt, toList_eq, toList_eq, if_pos h1, hw2]
    · rw [if_neg h1]
      refine Ev.step (fun k => ?_) (ref_kw_loop a0 xs hx n (i + 1) (by omega) (by omega))
      simp only [scholiastref02_Keyword.l0]
      rw [if_pos (by omega), if_pos (by omega), if_pos (by omega), rdOf_at _ _ _ hlt, toList_eq, toList_eq, if_neg h1, hw]
def KW : List ByteArray := token_words.f.getD []
theorem words_is : token_words.f = some KW := by kernel_rfl
theorem ref_words_is : scholiastref02_Keywords.f 400 = some KW := by kernel_rfl
def kwOf (L : List UInt8) : Int := kwGo L KW 0
theorem keyword_is (a0 : ByteArray) : Ev (fun k => token_Keyword.f k a0) (kwOf a0.data.toList) := by
  refine Ev.congr (fun k => ?_) (kw_loop a0 KW (by decide) 21 0 (by decide) (by decide))
  simp only [token_Keyword.f]
  rw [words_is, Option.bind_some]
  rfl
theorem ref_keyword_is (a0 : ByteArray) : Ev (fun k => scholiastref02_Keyword.f k a0) (kwOf a0.data.toList) := by
  have hs : Ev (fun k => scholiastref02_Keywords.f k) KW := Ev.of (fun k => scholiastref02_Keywords.mono k) ref_words_is
  exact Ev.bind (f := fun k t => scholiastref02_Keyword.l0 k a0 t t.length 0) hs (ref_kw_loop a0 KW (by decide) 21 0 (by decide) (by decide))
end Go.Proofs.YtkpceagbjodbbaaDoor.Pure
