/- The pure statement of TokenNumbers. Own work. -/
import Derived.Test.YtkpceagbjodbbaaDoorPA5
import Derived.Test.YtkpceagbjodbbaaDoorPB1
import Derived.Test.YtkpceagbjodbbaaDoorPB2
import Derived.Test.YtkpceagbjodbbaaDoorPlain
import Derived.Test.YtkpceagbjodbbaaDoorPure1
import Derived.Test.YtkpceagbjodbbaaDoorPure2
import Derived.Test.YtkpceagbjodbbaaDoorPure3
import Derived.Test.YtkpceagbjodbbaaDoorPure3
import Derived.KernelRfl
namespace Go.Proofs.YtkpceagbjodbbaaDoor.Pure
open Go.RowKit Go.Proofs.YtkpceagbjodbbaaDoorW.PrintWords Go.Proofs.YtkpceagbjodbbaaDoor.PA Go.Proofs.YtkpceagbjodbbaaDoor.PB Go.Proofs.YtkpceagbjodbbaaDoor.Ext Go.Proofs.YtkpceagbjodbbaaDoor.Plain
set_option linter.unusedVariables false
set_option linter.unusedSimpArgs false

/-- Each digit with a _ ahead; the same without the first _. -/
def uu : List UInt8 → List UInt8
  | [] => []
  | c :: r => 95 :: c :: uu r
def vv : List UInt8 → List UInt8
  | [] => []
  | c :: r => c :: uu r
def ww (p : Bool) (l : List UInt8) : List UInt8 := if p = true then uu l else vv l
def good (base : Int) (l : List UInt8) : Prop := ∀ c ∈ l, dR c.toNat < base
theorem dR95 : dR ((95 : UInt8).toNat : Int) = 99 := by decide
theorem dR103 : dR ((103 : UInt8).toNat : Int) = 99 := by decide
theorem good_ne (base : Int) (hb : base ≤ 16) {c : UInt8} (h : dR c.toNat < base) : c ≠ 95 := by
  rintro rfl
  rw [dR95] at h
  omega
theorem row_uu (base : Int) (hb : base ≤ 16) : ∀ l, good base l → rowGo base true (uu l) = some l
  | [], _ => rfl
  | c :: r, h => by
    have hc : dR c.toNat < base := h c (by simp)
    have hn := good_ne base hb hc
    rw [uu, rowGo, if_pos ⟨rfl, rfl, by simp⟩, rowGo, if_neg (fun x => hn x.1), if_neg (by omega), row_uu base hb r (fun x hx => h x (by simp [hx]))]
    rfl
theorem row_uu_bad (base : Int) (hb : base ≤ 16) (e : UInt8) (he : dR e.toNat = 99) : ∀ l, good base l → rowGo base true (uu l ++ [e]) = none
  | [], _ => by
    rw [uu, List.nil_append, rowGo, if_neg (by simp), if_pos (by omega)]
  | c :: r, h => by
    have hc : dR c.toNat < base := h c (by simp)
    have hn := good_ne base hb hc
    rw [uu, List.cons_append, rowGo, if_pos ⟨rfl, rfl, by simp⟩, List.cons_append, rowGo, if_neg (fun x => hn x.1), if_neg (by omega), row_uu_bad base hb e he r (fun x hx => h x (by simp [hx]))]
    rfl
theorem row_self (base : Int) (hb : base ≤ 16) : ∀ l p, good base l → rowGo base p l = some l
  | [], p, _ => by cases p <;> rfl
  | c :: r, p, h => by
    have hc : dR c.toNat < base := h c (by simp)
    have hn := good_ne base hb hc
    rw [rowGo, if_neg (fun x => hn x.1), if_neg (by omega), row_self base hb r true (fun x hx => h x (by simp [hx]))]
    rfl
theorem row_vv (base : Int) (hb : base ≤ 16) (l : List UInt8) (h : good base l) (hl : l ≠ []) : rowGo base false (vv l) = some l := by
  cases l with
  | nil => exact absurd rfl hl
  | cons c r =>
    have hc : dR c.toNat < base := h c (by simp)
    have hn := good_ne base hb hc
    rw [vv, rowGo, if_neg (fun x => hn x.1), if_neg (by omega), row_uu base hb r (fun x hx => h x (by simp [hx]))]
    rfl
theorem row_vv_bad (base : Int) (hb : base ≤ 16) (e : UInt8) (he : dR e.toNat = 99) (l : List UInt8) (h : good base l) (hl : l ≠ []) : rowGo base false (vv l ++ [e]) = none := by
  cases l with
  | nil => exact absurd rfl hl
  | cons c r =>
    have hc : dR c.toNat < base := h c (by simp)
    have hn := good_ne base hb hc
    rw [vv, List.cons_append, rowGo, if_neg (fun x => hn x.1), if_neg (by omega), row_uu_bad base hb e he r (fun x hx => h x (by simp [hx]))]
    rfl
theorem fin_some {base : Int} {R d : List UInt8} (hR : R ≠ []) (h : rowGo base false R = some d) : digFin base R = (base, ofL d, true) := by
  unfold digFin
  rw [if_neg hR, h]
theorem fin_none {base : Int} {R : List UInt8} (h : rowGo base false R = none) : (digFin base R).2.2 = false := by
  unfold digFin
  split
  · rename_i d hd
    split at hd
    · cases hd
    · rw [h] at hd; cases hd
  · rfl
/-- What is shown of one head. -/
def headGood (base : Int) (D h : List UInt8) : Prop :=
  digitsB (h ++ ww (h != []) D) = (base, ofL D, true) ∧ digitsB (h ++ D) = (base, ofL D, true) ∧ (digitsB ((h ++ ww (h != []) D) ++ [95])).2.2 = false ∧ (digitsB ((h ++ ww (h != []) D) ++ [103])).2.2 = false
theorem trim_uu (l t : List UInt8) (hl : l ≠ []) : trimU (uu l ++ t) = vv l ++ t := by
  cases l with
  | nil => exact absurd rfl hl
  | cons c r => rw [uu, vv, List.cons_append, trimU, if_pos rfl]
theorem trim_good (base : Int) (hb : base ≤ 16) (l : List UInt8) (h : good base l) : trimU l = l := by
  cases l with
  | nil => rfl
  | cons c r => rw [trimU, if_neg (good_ne base hb (h c (by simp)))]
theorem vv_ne (l t : List UInt8) (hl : l ≠ []) : vv l ++ t ≠ [] := by
  cases l with
  | nil => exact absurd rfl hl
  | cons c r => simp [vv]
/-- A head of two bytes. -/
theorem good_two (base : Int) (hb : base ≤ 16) (D : List UInt8) (hD : good base D) (hne : D ≠ []) (c : UInt8) (hh : ∀ t, headed (48 :: c :: t) = (base, trimU t)) : headGood base D [48, c] := by
  have e1 : ∀ t, digitsB ([48, c] ++ t) = digFin base (trimU t) := fun t => by unfold digitsB; rw [show [48, c] ++ t = 48 :: c :: t from rfl, hh]
  have hw : ww ([48, c] != []) D = uu D := by unfold ww; rw [if_pos (by rfl)]
  unfold headGood
  rw [hw, List.append_assoc, List.append_assoc, e1, e1, e1, e1]
  have t0 := trim_uu D [] hne
  rw [List.append_nil, List.append_nil] at t0
  have n0 := vv_ne D [] hne
  rw [List.append_nil] at n0
  rw [t0, trim_uu D _ hne, trim_uu D _ hne, trim_good base hb D hD]
  exact ⟨fin_some n0 (row_vv base hb D hD hne), fin_some hne (row_self base hb D false hD), fin_none (row_vv_bad base hb 95 dR95 D hD hne), fin_none (row_vv_bad base hb 103 dR103 D hD hne)⟩
theorem headed_other (c : UInt8) (t : List UInt8) (h1 : ¬ (c = 98 ∨ c = 66)) (h2 : ¬ (c = 111 ∨ c = 79)) (h3 : ¬ (c = 120 ∨ c = 88)) : headed (48 :: c :: t) = (8, trimU (c :: t)) := by
  unfold headed
  simp only [if_true, if_neg h1, if_neg h2, if_neg h3]
theorem good_zero (D : List UInt8) (hD : good 8 D) (hne : D ≠ []) : headGood 8 D [48] := by
  have hw : ww (([48] : List UInt8) != []) D = uu D := by unfold ww; rw [if_pos (by rfl)]
  unfold headGood
  rw [hw]
  cases D with
  | nil => exact absurd rfl hne
  | cons c r =>
    have e1 : ∀ t, digitsB (([48] ++ uu (c :: r)) ++ t) = digFin 8 (vv (c :: r) ++ t) := fun t => by
      unfold digitsB
      rw [show ([48] ++ uu (c :: r)) ++ t = 48 :: 95 :: (c :: (uu r ++ t)) from rfl, headed_other 95 _ (by decide) (by decide) (by decide)]
      rfl
    have e0 : digitsB ([48] ++ uu (c :: r)) = digFin 8 (vv (c :: r)) := by
      have := e1 []
      rw [List.append_nil, List.append_nil] at this
      exact this
    have hc : dR c.toNat < 8 := hD c (by simp)
    have big : ∀ x : UInt8, ¬ dR x.toNat < 8 → c ≠ x := by
      rintro x hx rfl
      exact hx hc
    have e2 : digitsB ([48] ++ (c :: r)) = digFin 8 (c :: r) := by
      unfold digitsB
      rw [show [48] ++ (c :: r) = 48 :: c :: r from rfl, headed_other c r ?_ ?_ ?_, trim_good 8 (by decide) _ hD]
      · rintro (h | h)
        · exact big 98 (by decide) h
        · exact big 66 (by decide) h
      · rintro (h | h)
        · exact big 111 (by decide) h
        · exact big 79 (by decide) h
      · rintro (h | h)
        · exact big 120 (by decide) h
        · exact big 88 (by decide) h
    rw [e0, e1, e1, e2]
    have n0 := vv_ne (c :: r) [] hne
    rw [List.append_nil] at n0
    exact ⟨fin_some n0 (row_vv 8 (by decide) _ hD hne), fin_some hne (row_self 8 (by decide) _ false hD), fin_none (row_vv_bad 8 (by decide) 95 dR95 _ hD hne), fin_none (row_vv_bad 8 (by decide) 103 dR103 _ hD hne)⟩
theorem headed_plain (a : UInt8) (t : List UInt8) (h : a ≠ 48) : headed (a :: t) = (10, a :: t) := by
  unfold headed
  cases t with
  | nil => rfl
  | cons c r => simp only [if_neg h]
theorem good_none (D : List UInt8) (hD : good 10 D) (hne : D ≠ []) (h0 : D = [48] ∨ ∃ a r, D = a :: r ∧ a ≠ 48) : headGood 10 D [] := by
  have hw : ww (([] : List UInt8) != []) D = vv D := by unfold ww; rw [if_neg (by decide)]
  unfold headGood
  rw [hw]
  rcases h0 with rfl | ⟨a, r, rfl, ha⟩
  · refine ⟨?_, ?_, ?_, ?_⟩ <;> decide +kernel
  · have e1 : ∀ t, digitsB (([] ++ vv (a :: r)) ++ t) = digFin 10 (vv (a :: r) ++ t) := fun t => by
      unfold digitsB
      rw [show ([] ++ vv (a :: r)) ++ t = a :: (uu r ++ t) from rfl, headed_plain a _ ha]
      rfl
    have e0 : digitsB ([] ++ vv (a :: r)) = digFin 10 (vv (a :: r)) := by
      have := e1 []
      rw [List.append_nil, List.append_nil] at this
      exact this
    have e2 : digitsB ([] ++ (a :: r)) = digFin 10 (a :: r) := by
      unfold digitsB
      rw [List.nil_append, headed_plain a _ ha]
    rw [e0, e1, e1, e2]
    have n0 := vv_ne (a :: r) [] hne
    rw [List.append_nil] at n0
    exact ⟨fin_some n0 (row_vv 10 (by decide) _ hD hne), fin_some hne (row_self 10 (by decide) _ false hD), fin_none (row_vv_bad 10 (by decide) 95 dR95 _ hD hne), fin_none (row_vv_bad 10 (by decide) 103 dR103 _ hD hne)⟩
theorem uu_len : ∀ l, (uu l).length = 2 * l.length
  | [] => rfl
  | c :: r => by simp [uu, uu_len r]; omega
theorem ww_len (p : Bool) (l : List UInt8) : (ww p l).length ≤ 2 * l.length := by
  unfold ww
  split
  · rw [uu_len]; exact Nat.le_refl _
  · cases l with
    | nil => simp [vv]
    | cons c r => simp [vv, uu_len]; omega

/-! ### the loop that writes the number anew -/
theorem num_loop (x3 : Int) (x4 x8 x10 : ByteArray) (x48 : List ByteArray) (x49 x50 : Int) (T : List UInt8) (h4 : x4.size ≤ 5000)
    (hfin : ∀ y : ByteArray, y.data.toList = T → y.size ≤ 30000 → Ev (fun k => scholiastlaw02_TokenNumbers.l1 k x3 x4 x8 y x10 x48 x49 x50 (x4.size : Int) (x4.size : Int)) true) :
    ∀ (n i : Nat) (x9 : ByteArray), x4.size - i = n → i ≤ x4.size → x9.size ≤ 2 * i + 10 → x9.data.toList ++ ww (decide (0 < i) || x10.data.toList != []) (x4.data.toList.drop i) = T →
      Ev (fun k => scholiastlaw02_TokenNumbers.l1 k x3 x4 x8 x9 x10 x48 x49 x50 (x4.size : Int) (i : Int)) true
  | 0, i, x9, hn, hi, h9, hT => by
    have : i = x4.size := by omega
    subst this
    have e : x4.data.toList.drop x4.size = [] := by rw [← len_eq, List.drop_length]
    rw [e] at hT
    have hw : ∀ p, ww p ([] : List UInt8) = [] := fun p => by cases p <;> rfl
    rw [hw, List.append_nil] at hT
    exact hfin x9 hT (by omega)
  | n + 1, i, x9, hn, hi, h9, hT => by
    have hlt : i < x4.size := by omega
    have hlt' : i < x4.data.toList.length := by rw [len_eq]; exact hlt
    obtain ⟨c, hc⟩ : ∃ c, x4.data.toList[i] = c := ⟨_, rfl⟩
    have hdrop : x4.data.toList.drop i = c :: x4.data.toList.drop (i + 1) := by
      rw [List.drop_eq_getElem_cons hlt', hc]
    have hwr : wrap64 ((i : Int) + 1) = ((i + 1 : Nat) : Int) := by rw [wrap_small (by omega) (by omega)]; omega
    have he : (x4.extract i (i + 1)).data.toList = [c] := by rw [ext_list, hdrop]; simp
    have hes : (x4.extract i (i + 1)).size = 1 := by rw [← len_eq, he]; rfl
    have g1 : ((i : Int) ≤ ((i + 1 : Nat) : Int)) = True := eq_true (by omega)
    have g2 : (((i + 1 : Nat) : Int) ≤ (x4.size : Int)) = True := eq_true (by omega)
    have g4 : ((0 : Int) ≤ (i : Int)) = True := eq_true (by omega)
    have g5 : ((i : Int) < (x4.size : Int)) = True := eq_true (by omega)
    have g6 : (x9.size + 1 ≤ 9223372036854775807) = True := eq_true (by omega)
    have hu : (x9 ++ (⟨#[95]⟩ : ByteArray)).data.toList = x9.data.toList ++ [95] := by rw [append_list]
    have hus : (x9 ++ (⟨#[95]⟩ : ByteArray)).size = x9.size + 1 := by rw [← len_eq, hu, List.length_append, len_eq]; rfl
    have g7 : ((x9 ++ (⟨#[95]⟩ : ByteArray)).size + (x4.extract i (i + 1)).size ≤ 9223372036854775807) = True := eq_true (by omega)
    have g8 : (x9.size + (x4.extract i (i + 1)).size ≤ 9223372036854775807) = True := eq_true (by omega)
    have z1 : ((x9 ++ (⟨#[95]⟩ : ByteArray)) ++ x4.extract i (i + 1)).data.toList = x9.data.toList ++ [95, c] := by rw [append_list, hu, he, List.append_assoc]; rfl
    have z1s : ((x9 ++ (⟨#[95]⟩ : ByteArray)) ++ x4.extract i (i + 1)).size = x9.size + 2 := by rw [← len_eq, z1, List.length_append, len_eq]; rfl
    have z2 : (x9 ++ x4.extract i (i + 1)).data.toList = x9.data.toList ++ [c] := by rw [append_list, he]
    have z2s : (x9 ++ x4.extract i (i + 1)).size = x9.size + 1 := by rw [← len_eq, z2, List.length_append, len_eq]; rfl
    rw [hdrop] at hT
    have hp : (decide (0 < i + 1) || x10.data.toList != []) = true := by simp
    have withU : (decide (0 < i) || x10.data.toList != []) = true → Ev (fun k => scholiastlaw02_TokenNumbers.l1 k x3 x4 x8 ((x9 ++ (⟨#[95]⟩ : ByteArray)) ++ x4.extract i (i + 1)) x10 x48 x49 x50 (x4.size : Int) ((i + 1 : Nat) : Int)) true := by
      intro hq
      refine num_loop x3 x4 x8 x10 x48 x49 x50 T h4 hfin n (i + 1) _ (by omega) (by omega) (by omega) ?_
      rw [hp, z1]
      rw [hq] at hT
      rw [← hT]
      simp [ww, uu]
    by_cases h0 : 0 < i
    · have g9 : ((i : Int) > 0) = True := eq_true (by omega)
      refine Ev.step (fun k => ?_) (withU (by simp [h0]))
      simp only [scholiastlaw02_TokenNumbers.l1, hwr, Int.toNat_natCast, g1, g2, g4, g5, g6, g7, g9, if_true]
    · have g9 : ((i : Int) > 0) = False := eq_false (by omega)
      by_cases hx : x10.data.toList = []
      · have g10 : (x10.toList = ([] : List UInt8)) = True := eq_true (by rw [toList_eq]; exact hx)
        have ih : Ev (fun k => scholiastlaw02_TokenNumbers.l1 k x3 x4 x8 (x9 ++ x4.extract i (i + 1)) x10 x48 x49 x50 (x4.size : Int) ((i + 1 : Nat) : Int)) true := by
          refine num_loop x3 x4 x8 x10 x48 x49 x50 T h4 hfin n (i + 1) _ (by omega) (by omega) (by omega) ?_
          rw [hp, z2, ← hT]
          simp [ww, vv, h0, hx]
        refine Ev.step (fun k => ?_) ih
        simp only [scholiastlaw02_TokenNumbers.l1, hwr, Int.toNat_natCast, g1, g2, g4, g5, g6, g8, g9, g10, if_true, if_false]
      · have g10 : (x10.toList = ([] : List UInt8)) = False := eq_false (by rw [toList_eq]; exact hx)
        refine Ev.step (fun k => ?_) (withU (by simp [hx]))
        simp only [scholiastlaw02_TokenNumbers.l1, hwr, Int.toNat_natCast, g1, g2, g4, g5, g6, g7, g9, g10, if_true, if_false]
theorem num_heads (base : Int) (x4 : ByteArray) (xs : List ByteArray) (hx : xs.length < 1000) (h4 : x4.size ≤ 5000) (hh : ∀ h ∈ xs, headGood base x4.data.toList h.data.toList ∧ h.size ≤ 2) :
    ∀ (n i : Nat), xs.length - i = n → i ≤ xs.length → Ev (fun k => scholiastlaw02_TokenNumbers.l0 k base x4 xs (xs.length : Int) (i : Int)) true
  | 0, i, hn, hi => by
    refine Ev.step (f := fun _ => some true) (fun k => ?_) (Ev.now _)
    simp only [scholiastlaw02_TokenNumbers.l0]
    rw [if_neg (by omega)]
  | n + 1, i, hn, hi => by
    have hlt : i < xs.length := by omega
    obtain ⟨⟨q1, q2, q3, q4⟩, hs⟩ := hh xs[i] (List.getElem_mem hlt)
    generalize hxi : xs[i] = h at q1 q2 q3 q4 hs
    have ih := num_heads base x4 xs hx h4 hh n (i + 1) (by omega) (by omega)
    have hwr : wrap64 ((i : Int) + 1) = ((i + 1 : Nat) : Int) := by rw [wrap_small (by omega) (by omega)]; omega
    have e4 : x4 = ofL x4.data.toList := eq_ofL rfl
    have fin : ∀ x10, Ev (fun k => scholiastlaw02_TokenNumbers.l1 k base x4 h h x10 xs (xs.length : Int) (i : Int) (x4.size : Int) 0) true ↔ Ev (fun k => scholiastlaw02_TokenNumbers.l1 k base x4 h h x10 xs (xs.length : Int) (i : Int) (x4.size : Int) ((0 : Nat) : Int)) true := fun _ => Iff.rfl
    have body : ∀ x10 : ByteArray, (x10.data.toList != []) = (h.data.toList != []) → Ev (fun k => scholiastlaw02_TokenNumbers.j2 k base x4 h h x10 xs (xs.length : Int) (i : Int)) true := by
      intro x10 hx10
      refine Ev.step (f := fun k => scholiastlaw02_TokenNumbers.l1 k base x4 h h x10 xs (xs.length : Int) (i : Int) (x4.size : Int) ((0 : Nat) : Int)) (fun k => ?_) ?_
      · simp only [scholiastlaw02_TokenNumbers.j2]
        rfl
      refine num_loop base x4 h x10 xs (xs.length : Int) (i : Int) (h.data.toList ++ ww (h.data.toList != []) x4.data.toList) h4 ?_ x4.size 0 h (by omega) (by omega) (by omega) (by simp [hx10])
      intro y hy hys
      have d1 := digits_is y (by omega)
      rw [hy, q1, ← e4] at d1
      have sz : (h ++ x4).size = h.size + x4.size := ByteArray.size_append
      have d2 := digits_is (h ++ x4) (by omega)
      rw [append_list, q2, ← e4] at d2
      have s1 : (y ++ (⟨#[95]⟩ : ByteArray)).size = y.size + 1 := ByteArray.size_append
      have s2 : (y ++ (⟨#[103]⟩ : ByteArray)).size = y.size + 1 := ByteArray.size_append
      have d3 := digits_is (y ++ (⟨#[95]⟩ : ByteArray)) (by omega)
      have d4 := digits_is (y ++ (⟨#[103]⟩ : ByteArray)) (by omega)
      rw [append_list, hy] at d3 d4
      have j4 : Ev (fun k => scholiastlaw02_TokenNumbers.j4 k base x4 y xs (xs.length : Int) (i : Int) false) true := by
        refine Ev.step (f := fun k => (token_Digits.f k (y ++ (⟨#[95]⟩ : ByteArray))).bind fun bt151 => ((token_Digits.f k (y ++ (⟨#[103]⟩ : ByteArray))).bind fun bt154 => (if bt151.2.2 = true then (some false) else (if bt154.2.2 = true then (some false) else (scholiastlaw02_TokenNumbers.l0 k base x4 xs (xs.length : Int) ((i + 1 : Nat) : Int)))))) (fun k => ?_) ?_
        · simp only [scholiastlaw02_TokenNumbers.j4]
          rw [if_neg (by decide), if_pos (by omega), hwr]
        refine Ev.bind d3 ?_
        refine Ev.bind d4 ?_
        have q3' : (digitsB (h.data.toList ++ ww (h.data.toList != []) x4.data.toList ++ (⟨#[95]⟩ : ByteArray).data.toList)).2.2 = false := q3
        have q4' : (digitsB (h.data.toList ++ ww (h.data.toList != []) x4.data.toList ++ (⟨#[103]⟩ : ByteArray).data.toList)).2.2 = false := q4
        simp only [q3', q4', Bool.false_eq_true, if_false]
        exact ih
      have g0 : ((x4.size : Int) < (x4.size : Int)) = False := eq_false (by omega)
      have g1 : (h.size + x4.size ≤ 9223372036854775807) = True := eq_true (by omega)
      refine Ev.step (f := fun k => (token_Digits.f k y).bind fun bt145 => ((token_Digits.f k (h ++ x4)).bind fun bt148 => (if bt145.1 = base then (if bt145.2.1.toList = x4.toList then (if bt145.2.2 = true then (if bt148.1 = base then (if bt148.2.1.toList = x4.toList then (scholiastlaw02_TokenNumbers.j4 k base x4 y xs (xs.length : Int) (i : Int) (!bt148.2.2)) else (scholiastlaw02_TokenNumbers.j4 k base x4 y xs (xs.length : Int) (i : Int) true)) else (scholiastlaw02_TokenNumbers.j4 k base x4 y xs (xs.length : Int) (i : Int) true)) else (scholiastlaw02_TokenNumbers.j4 k base x4 y xs (xs.length : Int) (i : Int) true)) else (scholiastlaw02_TokenNumbers.j4 k base x4 y xs (xs.length : Int) (i : Int) true)) else (scholiastlaw02_TokenNumbers.j4 k base x4 y xs (xs.length : Int) (i : Int) true)))) (fun k => ?_) ?_
      · simp only [scholiastlaw02_TokenNumbers.l1, g0, g1, if_true, if_false]
      refine Ev.bind d1 ?_
      refine Ev.bind d2 ?_
      simp only [if_true, Bool.not_true]
      exact j4
    have g0 : ((i : Int) < (xs.length : Int)) = True := eq_true (by omega)
    have g1 : ((0 : Int) ≤ (i : Int)) = True := eq_true (by omega)
    by_cases he : h.data.toList = []
    · have g2 : (h.toList = ([] : List UInt8)) = True := eq_true (by rw [toList_eq]; exact he)
      refine Ev.step (fun k => ?_) (body ⟨#[]⟩ (by rw [he]))
      simp only [scholiastlaw02_TokenNumbers.l0, g0, g1, rdOf_at _ _ _ hlt, hxi, g2, if_true]
    · have g2 : (h.toList = ([] : List UInt8)) = False := eq_false (by rw [toList_eq]; exact he)
      refine Ev.step (fun k => ?_) (body ⟨#[95]⟩ (by rw [bne_iff_ne.2 he]; rfl))
      simp only [scholiastlaw02_TokenNumbers.l0, g0, g1, rdOf_at _ _ _ hlt, hxi, g2, if_true, if_false]
theorem num_j0 (base : Int) (x4 : ByteArray) (xs : List ByteArray) (hx : xs.length < 1000) (h4 : x4.size ≤ 5000) (hh : ∀ h ∈ xs, headGood base x4.data.toList h.data.toList ∧ h.size ≤ 2) :
    Ev (fun k => scholiastlaw02_TokenNumbers.j0 k base x4 xs) true := by
  refine Ev.step (fun k => ?_) (num_heads base x4 xs hx h4 hh xs.length 0 (by omega) (by omega))
  simp only [scholiastlaw02_TokenNumbers.j0]
  rfl
theorem rowGo_len (base : Int) : ∀ (l : List UInt8) (p : Bool) (d : List UInt8), rowGo base p l = some d → d.length ≤ l.length
  | [], p, d, h => by cases p <;> (simp [rowGo] at h; subst h; simp)
  | c :: r, p, d, h => by
    rw [rowGo] at h
    split at h
    · have := rowGo_len base r false d h
      simp; omega
    · split at h
      · cases h
      · cases hr : rowGo base true r with
        | none => rw [hr] at h; cases h
        | some e =>
          rw [hr] at h
          simp at h
          subst h
          have := rowGo_len base r true e hr
          simp; omega
theorem rowGo_good (base : Int) (hb : base ≤ 16) (l : List UInt8) (p : Bool) (d : List UInt8) (h : rowGo base p l = some d) : good base d := by
  rw [rowGo_is base hb] at h
  split at h
  · rename_i hc
    obtain ⟨_, _, hd, _⟩ := hc
    injection h with h
    subst h
    intro c hcm
    exact of_decide_eq_true (List.all_eq_true.1 hd c hcm)
  · cases h
theorem trim_len (l : List UInt8) : (trimU l).length ≤ l.length := by
  cases l with
  | nil => simp [trimU]
  | cons c r => rw [trimU]; split <;> simp
theorem headed_cases (L : List UInt8) : (headed L).2.length ≤ L.length ∧ ((headed L).1 = 2 ∨ (headed L).1 = 8 ∨ (headed L).1 = 16 ∨ ((headed L).1 = 10 ∧ (headed L).2 = L ∧ (L.length ≤ 1 ∨ ∃ a r, L = a :: r ∧ a ≠ 48))) := by
  unfold headed
  split
  · rename_i a c r
    have h1 := trim_len r
    have h2 := trim_len (c :: r)
    by_cases h48 : a = 48
    · rw [if_pos h48]
      repeat' split
      all_goals (refine ⟨by simp at h2 ⊢; omega, ?_⟩)
      · exact Or.inl rfl
      · exact Or.inr (Or.inl rfl)
      · exact Or.inr (Or.inr (Or.inl rfl))
      · exact Or.inr (Or.inl rfl)
    · rw [if_neg h48]
      exact ⟨Nat.le_refl _, Or.inr (Or.inr (Or.inr ⟨rfl, rfl, Or.inr ⟨a, _, rfl, h48⟩⟩))⟩
  · rename_i hx
    refine ⟨Nat.le_refl _, Or.inr (Or.inr (Or.inr ⟨rfl, rfl, Or.inl ?_⟩))⟩
    cases L with
    | nil => simp
    | cons a t => cases t with
      | nil => simp
      | cons c r => exact absurd rfl (hx a c r)
theorem row_head (l d : List UInt8) (h : rowGo 10 false l = some d) (hl : l ≠ []) : (l.length ≤ 1 ∨ ∃ a r, l = a :: r ∧ a ≠ 48) → d = [48] ∨ ∃ a r, d = a :: r ∧ a ≠ 48 := by
  intro hc
  cases l with
  | nil => exact absurd rfl hl
  | cons c r =>
    rw [rowGo, if_neg (by simp)] at h
    split at h
    · cases h
    · cases hr : rowGo 10 true r with
      | none => rw [hr] at h; cases h
      | some e =>
        rw [hr] at h
        simp at h
        subst h
        rcases hc with hc | ⟨a, t, e1, e2⟩
        · have : r = [] := by
            cases r with
            | nil => rfl
            | cons x y => simp at hc
          subst this
          simp [rowGo] at hr
          subst hr
          by_cases h48 : c = 48
          · exact Or.inl (by rw [h48])
          · exact Or.inr ⟨c, [], rfl, h48⟩
        · injection e1 with e3 e4
          exact Or.inr ⟨c, e, rfl, by rw [e3]; exact e2⟩
theorem TokenNumbers : scholiastlaw02_TokenNumbers.Pure := by
  intro a0 _
  by_cases hb : (a0.size : Int) > 4096
  · refine ⟨0, ?_⟩
    unfold scholiastlaw02_TokenNumbers.f
    rw [if_pos hb]
  have hs : Ev (fun k => scholiastlaw02_shown.f k) true := Ev.of (fun k => scholiastlaw02_shown.mono k) (k := 60) (by kernel_rfl)
  have h : Ev (fun k => scholiastlaw02_TokenNumbers.f k a0) true := by
    unfold scholiastlaw02_TokenNumbers.f
    simp only [if_neg hb]
    refine Ev.bind hs ?_
    simp only [if_true]
    refine Ev.bind (digits_is a0 (by omega)) ?_
    have hlen := len_eq a0
    obtain ⟨hc1, hc2⟩ := headed_cases a0.data.toList
    generalize hbs : (headed a0.data.toList).1 = base at hc2
    generalize hR : (headed a0.data.toList).2 = R at hc1 hc2
    have hdB : digitsB a0.data.toList = digFin base R := by unfold digitsB; rw [hbs, hR]
    have h16 : base ≤ 16 := by rcases hc2 with h | h | h | ⟨h, _⟩ <;> omega
    rw [hdB]
    by_cases hRn : R = []
    · have e : digFin base R = (0, ofL [], false) := by unfold digFin; rw [if_pos hRn]
      rw [e]
      simp only [Bool.false_eq_true, if_false, if_true]
      refine Ev.congr (fun k => ?_) (Ev.now _)
      rw [toList_eq, ofL_list]
      rfl
    · cases hrow : rowGo base false R with
      | none =>
        have e : digFin base R = (0, ofL [], false) := by unfold digFin; rw [if_neg hRn, hrow]
        rw [e]
        simp only [Bool.false_eq_true, if_false, if_true]
        refine Ev.congr (fun k => ?_) (Ev.now _)
        rw [toList_eq, ofL_list]
        rfl
      | some D =>
        have hD := rowGo_good base h16 R false D hrow
        have hDn := rowGo_some base h16 R D hrow hRn
        have hDl := rowGo_len base R false D hrow
        have hsz : (ofL D).size ≤ 5000 := by rw [ofL_size]; omega
        rw [fin_some hRn hrow]
        simp only [if_true]
        rcases hc2 with h | h | h | ⟨h, hRL, hcase⟩
        · subst h
          simp only [show ¬ (2 : Int) = 8 by decide, show ¬ (2 : Int) = 16 by decide, show ¬ (2 : Int) = 10 by decide, if_false]
          refine num_j0 2 (ofL D) _ (by decide) hsz ?_
          rw [ofL_list]
          intro h hm
          simp only [List.mem_cons, List.not_mem_nil, or_false] at hm
          rcases hm with rfl | rfl
          · exact ⟨good_two 2 h16 D hD hDn 98 (fun t => by unfold headed; simp), by decide⟩
          · exact ⟨good_two 2 h16 D hD hDn 66 (fun t => by unfold headed; simp), by decide⟩
        · subst h
          simp only [if_true]
          refine num_j0 8 (ofL D) _ (by decide) hsz ?_
          rw [ofL_list]
          intro h hm
          simp only [List.mem_cons, List.not_mem_nil, or_false] at hm
          rcases hm with rfl | rfl | rfl
          · exact ⟨good_two 8 h16 D hD hDn 111 (fun t => by unfold headed; simp), by decide⟩
          · exact ⟨good_two 8 h16 D hD hDn 79 (fun t => by unfold headed; simp), by decide⟩
          · exact ⟨good_zero D hD hDn, by decide⟩
        · subst h
          simp only [show ¬ (16 : Int) = 8 by decide, if_false, if_true]
          refine num_j0 16 (ofL D) _ (by decide) hsz ?_
          rw [ofL_list]
          intro h hm
          simp only [List.mem_cons, List.not_mem_nil, or_false] at hm
          rcases hm with rfl | rfl
          · exact ⟨good_two 16 h16 D hD hDn 120 (fun t => by unfold headed; simp), by decide⟩
          · exact ⟨good_two 16 h16 D hD hDn 88 (fun t => by unfold headed; simp), by decide⟩
        · subst h
          simp only [show ¬ (10 : Int) = 8 by decide, show ¬ (10 : Int) = 16 by decide, if_false, if_true]
          refine num_j0 10 (ofL D) _ (by decide) hsz ?_
          rw [ofL_list]
          intro h hm
          simp only [List.mem_cons, List.not_mem_nil, or_false] at hm
          subst hm
          exact ⟨good_none D hD hDn (row_head R D hrow hRn (by rw [hRL]; exact hcase)), by decide⟩
  exact h.rounds
end Go.Proofs.YtkpceagbjodbbaaDoor.Pure
