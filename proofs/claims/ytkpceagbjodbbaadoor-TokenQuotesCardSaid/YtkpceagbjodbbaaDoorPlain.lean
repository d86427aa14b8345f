/- Plain lemmas on lists of bytes: no program in sight. Own work. -/
import Derived.Lib.Replace
import Derived.Lib.IndexMore
namespace Go.Proofs.YtkpceagbjodbbaaDoor.Plain
open Go

theorem isPrefixOf_one (c b : UInt8) (l : List UInt8) : [c].isPrefixOf (b :: l) = (c == b) := by simp [List.isPrefixOf]
theorem index_one (c : UInt8) : ∀ l : List UInt8, Lib.index l [c] = Lib.indexByte l c
  | [] => by simp [Lib.index, Lib.indexByte]
  | b :: l => by
    rw [Lib.index, Lib.indexByte, isPrefixOf_one, index_one c l]
    rw [BEq.comm (a := c)]
theorem indexByte_not (c : UInt8) : ∀ l : List UInt8, c ∉ l → Lib.indexByte l c = -1
  | [], _ => rfl
  | b :: l, h => by
    have h1 : ¬ b = c := fun e => h (by simp [e])
    have h2 : c ∉ l := fun e => h (by simp [e])
    rw [Lib.indexByte, indexByte_not c l h2]
    simp [h1]
theorem indexByte_at (c : UInt8) : ∀ (a b : List UInt8), c ∉ a → Lib.indexByte (a ++ c :: b) c = a.length
  | [], b, _ => by simp [Lib.indexByte]
  | x :: a, b, h => by
    have h1 : ¬ x = c := fun e => h (by simp [e])
    have h2 : c ∉ a := fun e => h (by simp [e])
    have ih := indexByte_at c a b h2
    rw [List.cons_append, Lib.indexByte, ih]
    have : ¬ ((a.length : Int) == -1) = true := by simp
    simp [h1, this]
theorem split_at (c : UInt8) : ∀ l : List UInt8, c ∈ l → ∃ a b, l = a ++ c :: b ∧ c ∉ a
  | [], h => by cases h
  | x :: l, h => by
    by_cases e : x = c
    · exact ⟨[], l, by simp [e], by simp⟩
    · have : c ∈ l := by
        rcases List.mem_cons.1 h with h | h
        · exact absurd h.symm e
        · exact h
      obtain ⟨a, b, h1, h2⟩ := split_at c l this
      exact ⟨x :: a, b, by simp [h1], by simp [h2]; exact fun h => e h.symm⟩
theorem filter_not (c : UInt8) (l : List UInt8) (h : c ∉ l) : l.filter (· != c) = l := by
  rw [List.filter_eq_self]
  intro x hx
  simp
  rintro rfl
  exact h hx
/-- Each instance of one byte is taken away, if there are at most so many. -/
theorem replaceK_one (c : UInt8) : ∀ (n : Nat) (l : List UInt8), l.length ≤ n → ∀ f, l.length < f → Lib.replaceK [c] [] (Lib.countFrom [c] f l) l = l.filter (· != c)
  | n, l, hn, 0, hf => by omega
  | n, l, hn, f + 1, hf => by
    by_cases h : c ∈ l
    · obtain ⟨a, b, rfl, ha⟩ := split_at c l h
      have hi : Lib.index (a ++ c :: b) [c] = a.length := by rw [index_one, indexByte_at c a b ha]
      have hd : (a ++ c :: b).drop (a.length + 1) = b := by simp
      have hc : ¬ ((a.length : Int) == -1) = true := by simp
      rw [Lib.countFrom, hi, if_neg hc]
      have e1 : ((a.length : Int)).toNat + [c].length = a.length + 1 := by simp
      rw [e1, hd, Nat.add_comm 1, Lib.replaceK_hit [c] [] _ _ a.length hi]
      have hd2 : (a ++ c :: b).drop (a.length + [c].length) = b := by simp
      rw [hd2]
      simp only [List.length_append, List.length_cons] at hn hf
      cases n with
      | zero => omega
      | succ n =>
        rw [replaceK_one c n b (by omega) f (by omega)]
        simp [List.filter_append, filter_not c a ha]
    · have hi : Lib.index l [c] = -1 := by rw [index_one, indexByte_not c l h]
      rw [Lib.countFrom, hi]
      simp only [beq_self_eq_true, if_true]
      rw [Lib.replaceK, filter_not c l h]
theorem replaceAll_one (c : UInt8) (l : List UInt8) : Lib.replaceAll l [c] [] = l.filter (· != c) := by
  unfold Lib.replaceAll Lib.replace Lib.replaceNum
  simp only [show ([c] == ([] : List UInt8)) = false from rfl, Bool.false_eq_true, if_false]
  rw [if_pos (Or.inl (by decide))]
  exact replaceK_one c l.length l (Nat.le_refl _) _ (by omega)

/-- Do two of these bytes stand side by side? -/
def has2 : List UInt8 → Bool
  | [] => false
  | b :: l => [95, 95].isPrefixOf (b :: l) || has2 l
theorem contains_two : ∀ l : List UInt8, Lib.contains l [95, 95] = has2 l
  | [] => by simp [Lib.contains, Lib.index, has2]
  | b :: l => by
    have ih := contains_two l
    unfold Lib.contains at ih ⊢
    rw [Lib.index, has2]
    by_cases h : [95, 95].isPrefixOf (b :: l) = true
    · simp [h]
    · rw [if_neg h]
      have hg := Lib.index_ge l [95, 95]
      rw [Bool.eq_false_iff.mpr h, Bool.false_or, ← ih]
      by_cases h1 : Lib.index l [95, 95] = -1
      · simp [h1]
      · have : ¬ (Lib.index l [95, 95] == -1) = true := by simp [h1]
        rw [if_neg this]
        congr 1
        simp only [eq_iff_iff]
        omega

/-- What a digit says; 16: it is none. -/
def dT (c : Int) : Int := if 48 ≤ c ∧ c ≤ 57 then c - 48 else if 97 ≤ c ∧ c ≤ 102 then c - 97 + 10 else if 65 ≤ c ∧ c ≤ 70 then c - 65 + 10 else 16
/-- The reference's: 99. -/
def dR (c : Int) : Int := if 48 ≤ c ∧ c ≤ 57 then c - 48 else if 97 ≤ c ∧ c ≤ 102 then c - 97 + 10 else if 65 ≤ c ∧ c ≤ 70 then c - 65 + 10 else 99
theorem dT_dR (c base : Int) (h : base ≤ 16) : dT c < base ↔ dR c < base := by
  unfold dT dR
  split
  · rfl
  · split
    · rfl
    · split
      · rfl
      · omega
/-- The reference's loop. -/
def rowGo (base : Int) : Bool → List UInt8 → Option (List UInt8)
  | _, [] => some []
  | pd, c :: r => if c = 95 ∧ pd = true ∧ r ≠ [] then rowGo base false r else if base ≤ dR c.toNat then none else (rowGo base true r).map (c :: ·)
def lastOk : List UInt8 → Bool
  | [] => true
  | [c] => c != 95
  | _ :: l => lastOk l
def headOk : List UInt8 → Bool
  | [] => true
  | c :: _ => c != 95
def digitsOk (base : Int) (l : List UInt8) : Bool := (l.filter (· != 95)).all fun c => decide (dR c.toNat < base)
theorem rowGo_is (base : Int) (hb : base ≤ 16) : ∀ (l : List UInt8) (pd : Bool), rowGo base pd l = if lastOk l = true ∧ has2 l = false ∧ digitsOk base l = true ∧ (pd = true ∨ headOk l = true) then some (l.filter (· != 95)) else none
  | [], pd => by simp [rowGo, lastOk, has2, digitsOk, headOk]
  | c :: r, pd => by
    have i1 := rowGo_is base hb r true
    have i2 := rowGo_is base hb r false
    rw [rowGo, i1, i2]
    by_cases hc : c = 95
    · subst hc
      have d95 : ¬ dR 95 < base := by simp [dR]; omega
      have d95' : base ≤ dR 95 := by omega
      cases r with
      | nil =>
        simp [d95', lastOk]
      | cons x r =>
        cases pd with
        | false => simp [d95', headOk]
        | true =>
          have e2 : has2 (95 :: x :: r) = ((x == 95) || has2 (x :: r)) := by
            rw [has2]
            congr 1
            simp [List.isPrefixOf, BEq.comm (a := x)]
          rw [e2]
          have e3 : digitsOk base (95 :: x :: r) = digitsOk base (x :: r) := by simp [digitsOk]
          have e4 : lastOk (95 :: x :: r) = lastOk (x :: r) := rfl
          have e5 : (95 :: x :: r).filter (· != 95) = (x :: r).filter (· != 95) := by simp
          rw [e3, e4, e5]
          have e6 : headOk (x :: r) = (x != 95) := rfl
          rw [e6]
          by_cases hx : x = 95
          · simp [hx]
          · simp [hx]
    · have n1 : ¬ (c = 95 ∧ pd = true ∧ r ≠ []) := fun h => hc h.1
      rw [if_neg n1]
      have hb2 : (c != 95) = true := by simp [hc]
      have e2 : has2 (c :: r) = has2 r := by
        rw [has2]
        cases r with
        | nil => simp [List.isPrefixOf, has2]
        | cons x r => simp [List.isPrefixOf]; intro h; exact absurd h.symm hc
      have e3 : digitsOk base (c :: r) = (decide (dR c.toNat < base) && digitsOk base r) := by simp [digitsOk, hb2]
      have e4 : lastOk (c :: r) = lastOk r := by
        cases r with
        | nil => simp [lastOk, hc]
        | cons x r => rfl
      have e5 : (c :: r).filter (· != 95) = c :: r.filter (· != 95) := by simp [hb2]
      have e6 : headOk (c :: r) = true := hb2
      rw [e2, e3, e4, e5, e6]
      by_cases hd : base ≤ dR c.toNat
      · rw [if_pos hd]
        have : ¬ dR c.toNat < base := by omega
        simp [this]
      · rw [if_neg hd]
        have : dR c.toNat < base := by omega
        simp only [this, decide_true, Bool.true_and, true_or, and_true, or_true]
        split <;> simp
end Go.Proofs.YtkpceagbjodbbaaDoor.Plain
