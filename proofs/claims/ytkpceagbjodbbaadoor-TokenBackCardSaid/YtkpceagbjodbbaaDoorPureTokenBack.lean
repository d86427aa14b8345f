/- The pure statement of TokenBack. Own work. -/
import Derived.Test.YtkpceagbjodbbaaDoorPA7
import Derived.Test.YtkpceagbjodbbaaDoorPA8
import Derived.Test.YtkpceagbjodbbaaDoorPB1
import Derived.Test.YtkpceagbjodbbaaDoorPB5
import Derived.Test.YtkpceagbjodbbaaDoorPure1
import Derived.Test.YtkpceagbjodbbaaDoorPure1
namespace Go.Proofs.YtkpceagbjodbbaaDoor.Pure
open Go.RowKit Go.Proofs.YtkpceagbjodbbaaDoorW.PrintWords Go.Proofs.YtkpceagbjodbbaaDoor.PA Go.Proofs.YtkpceagbjodbbaaDoor.PB Go.Proofs.YtkpceagbjodbbaaDoor.Ext
set_option linter.unusedVariables false
set_option linter.unusedSimpArgs false
theorem back_shown : scholiastlaw02_shown.f 60 = some true := by kernel_rfl
theorem back_shown_ev : Ev (fun k => scholiastlaw02_shown.f k) true := Ev.of (fun k => scholiastlaw02_shown.mono k) back_shown
/-- What the search for the longest sign ends with. -/
theorem opGo_spec (L : List UInt8) : ∀ (X : List ByteArray) (i : Nat) (k w : Int), w ≤ (opGo L X i k w).2 ∧ ((opGo L X i k w) = (k, w) ∨ ∃ j, ∃ h : j < X.length, opGo L X i k w = ((20 + ((i + j : Nat) : Int) : Int), (X[j].size : Int)) ∧ X[j].data.toList.isPrefixOf L = true) ∧ ∀ j (h : j < X.length), X[j].data.toList.isPrefixOf L = true → (X[j].size : Int) ≤ (opGo L X i k w).2
  | [], i, k, w => ⟨Int.le_refl _, Or.inl rfl, fun j h => absurd h (Nat.not_lt_zero _)⟩
  | s :: r, i, k, w => by
    rw [opGo]
    by_cases h : (s.size : Int) > w ∧ s.data.toList.isPrefixOf L = true
    · rw [if_pos h]
      obtain ⟨h1, h2, h3⟩ := opGo_spec L r (i + 1) (20 + i) s.size
      refine ⟨by omega, Or.inr ?_, ?_⟩
      · rcases h2 with h2 | ⟨j, hj, e, hp⟩
        · exact ⟨0, by simp, by rw [h2]; simp, by simpa using h.2⟩
        · exact ⟨j + 1, by simpa using hj, by rw [e]; simp; omega, by simpa using hp⟩
      · intro j hj hp
        cases j with
        | zero => simpa using h1
        | succ j => simpa using h3 j (by simpa using hj) (by simpa using hp)
    · rw [if_neg h]
      obtain ⟨h1, h2, h3⟩ := opGo_spec L r (i + 1) k w
      refine ⟨h1, ?_, ?_⟩
      · rcases h2 with h2 | ⟨j, hj, e, hp⟩
        · exact Or.inl h2
        · exact Or.inr ⟨j + 1, by simpa using hj, by rw [e]; simp; omega, by simpa using hp⟩
      · intro j hj hp
        cases j with
        | zero =>
          simp only [List.getElem_cons_zero] at hp ⊢
          have : ¬ (s.size : Int) > w := fun x => h ⟨x, hp⟩
          omega
        | succ j => simpa using h3 j (by simpa using hj) (by simpa using hp)
theorem sg_names : ((List.range 46).all fun j => decide (token_Name.f 400 (20 + (j : Int)) = some (SG.getD j ⟨#[]⟩))) = true := by kernel_rfl
theorem sg_len : SG.length = 46 := by kernel_rfl
theorem name15 : token_Name.f 400 15 = some ⟨#[59]⟩ := by kernel_rfl
def chk (a : Nat) : Bool := match token_Name.f 400 (a : Int) with
  | some s => (kwOf s.data.toList == 0 || kwOf s.data.toList == (a : Int)) && (!((opOf s.data.toList).2 == (s.size : Int) && decide ((opOf s.data.toList).2 > 0)) || (opOf s.data.toList).1 == (a : Int)) && (kwOf s.data.toList == 0 || (opOf s.data.toList).2 == 0) && decide (scholiastlaw02_TokenBack.j2 400 (a : Int) s = some true)
  | none => false
theorem chk_all : ((List.range 91).all chk) = true := by kernel_rfl
theorem take_append (s b : ByteArray) : (s ++ b).data.toList = s.data.toList ++ b.data.toList := by simp
theorem prefix_iff (a b : List UInt8) : a.isPrefixOf b = true ↔ a <+: b := List.isPrefixOf_iff_prefix
/-- Behind a sign: the longest sign that a text begins with is no shorter, and named by its piece. -/
theorem behind_is (s b : ByteArray) (hs : (opOf s.data.toList).1 > 0) (hn : (opOf s.data.toList).2 = (s.size : Int)) (h0 : 0 < s.size) :
    ∃ m w t, opOf (s ++ b).data.toList = (m, w) ∧ (opOf s.data.toList).2 ≤ w ∧ w ≤ ((s ++ b).size : Int) ∧ Ev (fun k => token_Name.f k m) t ∧ t.data.toList = (s ++ b).data.toList.take w.toNat := by
  have hL : (s ++ b).data.toList = s.data.toList ++ b.data.toList := take_append s b
  have hsz : (s ++ b).size = s.size + b.size := ByteArray.size_append
  have hlen := len_eq s
  by_cases h : ([59] : List UInt8).isPrefixOf (s ++ b).data.toList = true
  · have h' : ([59] : List UInt8).isPrefixOf s.data.toList = true := by
      rw [prefix_iff] at h ⊢
      rw [hL] at h
      cases hd : s.data.toList with
      | nil => rw [hd] at hlen; simp at hlen; omega
      | cons c r =>
        rw [hd] at h
        obtain ⟨z, hz⟩ := h
        simp at hz
        exact ⟨r, by simp [hz.1]⟩
    have e1 : opOf (s ++ b).data.toList = (15, 1) := by unfold opOf; rw [if_pos h]
    have e2 : opOf s.data.toList = (15, 1) := by unfold opOf; rw [if_pos h']
    refine ⟨15, 1, ⟨#[59]⟩, e1, by rw [e2]; exact Int.le_refl _, by rw [hsz]; omega, Ev.of (fun k => token_Name.mono 15 k) name15, ?_⟩
    rw [prefix_iff] at h
    obtain ⟨z, hz⟩ := h
    rw [← hz]
    rfl
  · have h' : ¬ ([59] : List UInt8).isPrefixOf s.data.toList = true := fun hp => h (by
      rw [prefix_iff] at hp ⊢
      rw [hL]
      exact hp.trans (List.prefix_append _ _))
    have e1 : opOf (s ++ b).data.toList = opGo (s ++ b).data.toList SG 0 0 0 := by unfold opOf; rw [if_neg h]
    have e2 : opOf s.data.toList = opGo s.data.toList SG 0 0 0 := by unfold opOf; rw [if_neg h']
    obtain ⟨_, q2, _⟩ := opGo_spec s.data.toList SG 0 0 0
    obtain ⟨p1, p2, p3⟩ := opGo_spec (s ++ b).data.toList SG 0 0 0
    rw [← e2] at q2
    rw [← e1] at p1 p2 p3
    rcases q2 with q2 | ⟨j, hj, ej, hp⟩
    · rw [q2] at hs; exact absurd hs (by decide)
    have hw : (opOf s.data.toList).2 ≤ (opOf (s ++ b).data.toList).2 := by
      rw [ej]
      refine p3 j hj ?_
      rw [prefix_iff] at hp ⊢
      rw [hL]
      exact hp.trans (List.prefix_append _ _)
    rcases p2 with p2 | ⟨i, hi, ei, hq⟩
    · rw [p2, hn] at hw; have hw' : (s.size : Int) ≤ 0 := hw; omega
    have hsg := List.all_eq_true.1 sg_names i (by rw [sg_len] at hi; simp; exact hi)
    have hsg := of_decide_eq_true hsg
    have hg : SG.getD i ⟨#[]⟩ = SG[i] := by rw [List.getD_eq_getElem?_getD, List.getElem?_eq_getElem hi]; rfl
    rw [hg] at hsg
    rw [prefix_iff] at hq
    have hle := hq.length_le
    rw [len_eq, len_eq] at hle
    rw [ei] at hw
    refine ⟨_, _, SG[i], ei, hw, by simp; omega, ?_, ?_⟩
    · exact Ev.of (fun k => token_Name.mono _ k) (by simpa using hsg)
    · have := List.prefix_iff_eq_take.1 hq
      rw [len_eq] at this
      simpa using this
theorem back_j (a0 : Int) (a1 s : ByteArray) (m n : Int) (ho : opOf s.data.toList = (m, n)) (hsz : s.size < 100) (h1 : a1.size ≤ 1073741824) (hj2 : Ev (fun k => scholiastlaw02_TokenBack.j2 k a0 s) true) (hn0 : m > 0 → n = (s.size : Int) → 0 < s.size) :
    Ev (fun k => scholiastlaw02_TokenBack.j0 k a0 a1 s m n false) true := by
  have hf : Ev (fun k => scholiastlaw02_TokenBack.j1 k a0 a1 s n false) true := by
    refine Ev.step (fun k => ?_) hj2
    simp only [scholiastlaw02_TokenBack.j1]
    rw [if_neg (by decide)]
  by_cases hm : m > 0
  · by_cases hn : n = (s.size : Int)
    · refine Ev.step (f := fun k => scholiastlaw02_TokenBack.j1 k a0 a1 s n true) (fun k => ?_) ?_
      · simp only [scholiastlaw02_TokenBack.j0]
        rw [if_neg (by decide), if_pos hm, show (n == (s.size : Int)) = true from beq_iff_eq.2 hn]
      · obtain ⟨m2, w, t, e1, e2, e3, e4, e5⟩ := behind_is s a1 (by rw [ho]; exact hm) (by rw [ho]; exact hn) (hn0 hm hn)
        rw [ho] at e2
        have hop := operator_is (s ++ a1)
        rw [e1] at hop
        refine Ev.step (f := fun k => (token_Operator.f k (s ++ a1)).bind fun bt206 => (if bt206.2 < n then (some false) else ((token_Name.f k bt206.1).bind fun t208 => (if 0 ≤ bt206.2 then (if bt206.2 ≤ ((s ++ a1).size : Int) then (if t208.toList = ((s ++ a1).extract 0 (bt206.2 : Int).toNat).toList then (scholiastlaw02_TokenBack.j2 k a0 s) else (some false)) else (none)) else (none))))) (fun k => ?_) ?_
        · simp only [scholiastlaw02_TokenBack.j1]
          rw [if_pos trivial, if_pos (by omega)]
        · refine Ev.bind hop ?_
          simp only []
          simp only at e2
          have hwn : ¬ w < n := by omega
          simp only [if_neg hwn]
          refine Ev.bind e4 ?_
          have hw0 : (0 : Int) ≤ w := by omega
          have ht : t.toList = ((s ++ a1).extract 0 w.toNat).toList := by rw [toList_eq, toList_eq, ext_list, e5]; simp
          simp only [if_pos hw0, if_pos e3, if_pos ht]
          exact hj2
    · refine Ev.step (fun k => ?_) hf
      simp only [scholiastlaw02_TokenBack.j0]
      rw [if_neg (by decide), if_pos hm, show (n == (s.size : Int)) = false from beq_eq_false_iff_ne.2 hn]
  · refine Ev.step (fun k => ?_) hf
    simp only [scholiastlaw02_TokenBack.j0]
    rw [if_neg (by decide), if_neg hm]
theorem back_f (a0 : Int) (a1 s : ByteArray) (m n kw : Int) (h1 : a1.size ≤ 1073741824) (e1 : Ev (fun k => token_Name.f k a0) s) (e2 : Ev (fun k => token_Operator.f k s) (m, n)) (e3 : Ev (fun k => token_Keyword.f k s) kw)
    (b1 : kw = 0 ∨ kw = a0) (b2 : n = (s.size : Int) → n > 0 → m = a0) (b3 : kw ≠ 0 → n = 0) (hj : Ev (fun k => scholiastlaw02_TokenBack.j0 k a0 a1 s m n false) true) :
    Ev (fun k => scholiastlaw02_TokenBack.f k a0 a1) true := by
  have last : Ev (fun k => (token_Keyword.f k s).bind fun t => if t = 0 then scholiastlaw02_TokenBack.j0 k a0 a1 s m n false else scholiastlaw02_TokenBack.j0 k a0 a1 s m n (n != 0)) true := by
    refine Ev.bind e3 ?_
    by_cases h : kw = 0
    · simp only [if_pos h]; exact hj
    · have e0 : (n != 0) = false := by rw [b3 h]; rfl
      simp only [if_neg h, e0]
      exact hj
  refine Ev.congr (f := fun k => (scholiastlaw02_shown.f k).bind fun t194 => (if t194 = true then _ else (some false))) (fun k => by simp only [scholiastlaw02_TokenBack.f]; rw [if_neg (by omega)]) ?_
  refine Ev.bind back_shown_ev ?_
  simp only [if_true]
  refine Ev.bind e1 ?_
  refine Ev.bind e2 ?_
  refine Ev.bind e3 ?_
  have tail : Ev (fun k => if n = (s.size : Int) then (if n > 0 then (if m = a0 then ((token_Keyword.f k s).bind fun t => if t = 0 then scholiastlaw02_TokenBack.j0 k a0 a1 s m n false else scholiastlaw02_TokenBack.j0 k a0 a1 s m n (n != 0)) else scholiastlaw02_TokenBack.j0 k a0 a1 s m n true) else ((token_Keyword.f k s).bind fun t => if t = 0 then scholiastlaw02_TokenBack.j0 k a0 a1 s m n false else scholiastlaw02_TokenBack.j0 k a0 a1 s m n (n != 0))) else ((token_Keyword.f k s).bind fun t => if t = 0 then scholiastlaw02_TokenBack.j0 k a0 a1 s m n false else scholiastlaw02_TokenBack.j0 k a0 a1 s m n (n != 0))) true := by
    by_cases h : n = (s.size : Int)
    · by_cases h2 : n > 0
      · refine Ev.congr (fun k => ?_) last
        rw [if_pos h, if_pos h2, if_pos (b2 h h2)]
      · refine Ev.congr (fun k => ?_) last
        rw [if_pos h, if_neg h2]
    · refine Ev.congr (fun k => ?_) last
      rw [if_neg h]
  by_cases h : kw = 0
  · simp only [if_pos h]; exact tail
  · simp only [if_neg h]
    refine Ev.bind e3 ?_
    simp only [if_pos (b1.resolve_left h)]
    exact tail
set_option maxRecDepth 100000 in
theorem name_far (a : Int) (h : a < 0 ∨ 90 < a) : token_Name.f 400 a = some ⟨#[]⟩ := by
  simp only [token_Name.f, token_Name.j0, token_Name.j1, decide_eq_true_eq, Bool.false_eq_true, if_false, beq_iff_eq]
  rcases h with h | h
  all_goals
    repeat (first | rw [if_neg (by omega)] | rw [if_pos (by omega)])
set_option maxRecDepth 100000 in
theorem plain_far (a : Int) (h : a < 0 ∨ 90 < a) : token_Plain.f a = some 0 := by
  simp only [token_Plain.f, decide_eq_true_eq, Bool.false_eq_true, if_false, beq_iff_eq]
  rcases h with h | h
  all_goals
    repeat (first | rw [if_neg (by omega)] | rw [if_pos (by omega)])
theorem sizes_all : ((List.range 91).all fun a => match token_Name.f 400 (a : Int) with | some s => decide (s.size < 100) | none => false) = true := by kernel_rfl
theorem op_nil : opOf [] = (0, 0) := by kernel_rfl
theorem op_zero : ∀ s : ByteArray, s.size = 0 → opOf s.data.toList = (0, 0) := fun s h => by
  have := len_eq s
  have e : s.data.toList = [] := List.length_eq_zero_iff.1 (by omega)
  rw [e]
  exact op_nil
theorem kw_nil : kwOf [] = 0 := by kernel_rfl
theorem TokenBack : scholiastlaw02_TokenBack.Pure := by
  intro a0 a1 _ _
  refine Ev.rounds (g := fun k => scholiastlaw02_TokenBack.f k a0 a1) ?_
  by_cases hbig : (a1.size : Int) > 1073741824
  · refine Ev.congr (fun k => ?_) (Ev.now true)
    simp only [scholiastlaw02_TokenBack.f]
    rw [if_pos hbig]
  by_cases h : a0 < 0 ∨ 90 < a0
  · have hj2 : Ev (fun k => scholiastlaw02_TokenBack.j2 k a0 ⟨#[]⟩) true := by
      refine Ev.step (f := fun _ => some true) (fun k => ?_) (Ev.now _)
      simp only [scholiastlaw02_TokenBack.j2]
      rw [plain_far a0 h, Option.bind_some, if_pos rfl]
    exact back_f a0 a1 ⟨#[]⟩ 0 0 0 (by omega) (Ev.of (fun k => token_Name.mono a0 k) (name_far a0 h)) (operator_is ⟨#[]⟩) (keyword_is ⟨#[]⟩) (Or.inl rfl) (fun _ h => absurd h (by decide)) (fun h => absurd rfl h)
      (back_j a0 a1 ⟨#[]⟩ 0 0 (op_zero _ rfl) (by decide) (by omega) hj2 (fun h => absurd h (by decide)))
  · have hc := List.all_eq_true.1 chk_all a0.toNat (by simp; omega)
    have hz := List.all_eq_true.1 sizes_all a0.toNat (by simp; omega)
    have e : ((a0.toNat : Nat) : Int) = a0 := by omega
    unfold chk at hc
    rw [e] at hc
    simp only [e] at hz
    cases hn : token_Name.f 400 a0 with
    | none => rw [hn] at hc; simp at hc
    | some s =>
      rw [hn] at hc hz
      simp only [Bool.and_eq_true, Bool.or_eq_true, beq_iff_eq, Bool.not_eq_true', Bool.and_eq_false_iff, decide_eq_true_eq, decide_eq_false_iff_not, beq_eq_false_iff_ne] at hc hz
      obtain ⟨⟨⟨c1, c2⟩, c3⟩, c4⟩ := hc
      refine back_f a0 a1 s (opOf s.data.toList).1 (opOf s.data.toList).2 (kwOf s.data.toList) (by omega) (Ev.of (fun k => token_Name.mono a0 k) hn) (operator_is s) (keyword_is s) c1 ?_ ?_
        (back_j a0 a1 s _ _ rfl hz (by omega) (Ev.of (fun k => (scholiastlaw02_TokenBack.mono_l k).2.2 a0 s) c4) ?_)
      · intro p q
        rcases c2 with c2 | c2
        · rcases c2 with c2 | c2
          · exact absurd p c2
          · exact absurd q c2
        · exact c2
      · intro p
        exact c3.resolve_left p
      · intro p q
        apply Nat.pos_of_ne_zero
        intro h0
        rw [op_zero s h0] at p
        exact absurd p (by decide)
end Go.Proofs.YtkpceagbjodbbaaDoor.Pure
