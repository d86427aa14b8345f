/- The walk of token.Unquote. Own work. -/
import Derived.Test.YtkpceagbjodbbaaDoorPA3
import Derived.Test.YtkpceagbjodbbaaDoorX2
namespace Go.Proofs.YtkpceagbjodbbaaDoor.Ext
open Go.RowKit Go.Proofs.YtkpceagbjodbbaaDoorW.PrintWords Go.Proofs.YtkpceagbjodbbaaDoorW.PrintLast Go.Proofs.YtkpceagbjodbbaaDoorW.PrintMore
open Go.Proofs.YtkpceagbjodbbaaDoor.PA
set_option linter.unusedVariables false
set_option linter.unusedSimpArgs false

theorem byteCells_snoc (acc : List UInt8) (c : Int) (h0 : 0 ≤ c) (h1 : c ≤ 255) : Lib.byteCells acc ++ [Value.int .u8 c] = Lib.byteCells (acc ++ [c.toNat.toUInt8]) := by
  have e : ((c.toNat.toUInt8).toNat : Int) = c := by
    simp [Nat.toUInt8, UInt8.toNat_ofNat']
    omega
  simp [Lib.byteCells]
  omega
/-- A builder stays as it is where a call only makes new memory. -/
theorem builder_below {T e B b : Nat} {bs : List Value} {w w' : World} (hb : Below w.heap.size w w') (h : Lib.IsBuilder T e B b bs w) : Lib.IsBuilder T e B b bs w' := by
  have go : ∀ p, Lib.BuilderAt T e B b p bs w → Lib.BuilderAt T e B b p bs w' := by
    rintro p ⟨h1, v, h2, h3, h4⟩
    refine ⟨h1, v, ?_, ?_, h4⟩
    · rw [hb.block b (by
        rcases Nat.lt_or_ge b w.heap.size with h | h
        · exact h
        · rw [Array.getElem?_eq_none h] at h2; cases h2)]
      exact h2
    · obtain ⟨hl, hr⟩ := h3
      refine ⟨hl, ?_⟩
      rcases hr with hr | ⟨g, cap, cur, e1, e2, e3, e4⟩
      · exact Or.inl hr
      · refine Or.inr ⟨g, cap, cur, e1, e2, ?_, e4⟩
        rw [hb.block g (by
          rcases Nat.lt_or_ge g w.heap.size with h | h
          · exact h
          · rw [Array.getElem?_eq_none h] at e3; cases e3)]
        exact e3
  rcases h with h | h
  · exact Or.inl (go _ h)
  · exact Or.inr (go _ h)
theorem toList_len (s : ByteArray) : s.toList.length = s.size := by rw [Lib.toList_data]; rfl
set_option maxHeartbeats 4000000 in
set_option maxRecDepth 100000 in
/-- A raw text. -/
theorem unquote_raw (a0 : ByteArray) (t : Int) (w : World) (HT : Tabs w) (hs : a0.size ≤ 140737488355328) (hc1 : 1 < a0.size) (hc2 : bt a0 0 = 96)
    (A1 : Aside0 (strings_IndexByte.f (a0.extract 1 a0.size) 96 = some t)) (ht : t = (a0.size : Int) - 2) :
    Calls Tryd.prog 17 #[.string a0] w fun e w' => e = .returned (.tuple #[.string (dropR (a0.extract 1 (a0.size - 1))), .int .i64 0, .int .i64 0]) ∧ Below w.heap.size w w' := by
  have hxs : (a0.extract 1 (a0.size - 1)).size ≤ 140737488355328 := by rw [ByteArray.size_extract]; omega
  have q5 : (0 < a0.size) = True := eq_true (by omega)
  have qi5 : (0 < (a0.size : Int)) = True := eq_true (by omega)
  have hx5 : ∀ h : 0 < a0.size, ((a0[0]'h).toNat : Int) = bt a0 0 := bt_at a0 0
  have c1 : decide (1 < (a0.size : Int)) = true := decide_eq_true (by omega)
  have c2 : (bt a0 0 == 96) = true := by rw [hc2]; rfl
  have c3 : (t == (a0.size : Int) - 2) = true := by rw [ht]; exact beq_iff_eq.mpr rfl
  have c4 : ((1 : Int) ≤ (a0.size : Int) - 1) = True := eq_true (by omega)
  have c5 : ((a0.size : Int) - 1 ≤ (a0.size : Int)) = True := eq_true (by omega)
  have c6 : ((a0.size : Int) - 1).toNat = a0.size - 1 := by omega
  clear hc2 ht
  go_enter Tryd.func17, Tryd.ntmps17
  go_wp2_with (first | (go_at_call 41; refine (strings_IndexByte.calls _ _ t _ A1.out).mono ?_; rintro e w8 ⟨rfl, hb⟩) | (go_at_call 38; refine (replaceAll_r (a0.extract 1 (a0.size - 1)) _ hxs).mono ?_; rintro e w9 ⟨rfl, hb2⟩))
  go_ret3
  exact ⟨rfl, below_step hb hb2⟩

set_option maxHeartbeats 4000000 in
set_option maxRecDepth 100000 in
/-- A text that begins with a back quote and isn't ended by the next one, where that is looked at. -/
theorem unquote_rawbad (a0 : ByteArray) (t : Int) (w : World) (hs : a0.size ≤ 140737488355328) (hc1 : 1 < a0.size) (hc2 : bt a0 0 = 96)
    (A1 : Aside0 (strings_IndexByte.f (a0.extract 1 a0.size) 96 = some t)) (ht : ¬ t = (a0.size : Int) - 2) :
    Calls Tryd.prog 17 #[.string a0] w fun e w' => e = .returned (.tuple #[.string ⟨#[]⟩, .int .i64 106, .int .i64 0]) ∧ Below w.heap.size w w' := by
  have q5 : (0 < a0.size) = True := eq_true (by omega)
  have qi5 : (0 < (a0.size : Int)) = True := eq_true (by omega)
  have hx5 : ∀ h : 0 < a0.size, ((a0[0]'h).toNat : Int) = bt a0 0 := bt_at a0 0
  have c1 : decide (1 < (a0.size : Int)) = true := decide_eq_true (by omega)
  have c2 : (bt a0 0 == 96) = true := by rw [hc2]; rfl
  have c2' : (bt a0 0 != 34) = true := by rw [hc2]; rfl
  have c3 : (t == (a0.size : Int) - 2) = false := beq_eq_false_iff_ne.mpr ht
  have c4 : (a0.toList == ([] : List UInt8)) = false := by rw [beq_eq_false_iff_ne]; intro e; have := toList_len a0; rw [e] at this; simp at this; omega
  clear hc2 ht
  go_enter Tryd.func17, Tryd.ntmps17
  go_wp2_with (go_at_call 41; refine (strings_IndexByte.calls _ _ t _ A1.out).mono ?_; rintro e w8 ⟨rfl, hb⟩)
  go_ret3
  exact ⟨rfl, hb⟩
set_option maxHeartbeats 4000000 in
set_option maxRecDepth 100000 in
/-- A text that begins with neither quote. -/
theorem unquote_none (a0 : ByteArray) (w : World) (hs : a0.size ≤ 140737488355328) (hc1 : ¬ (1 < a0.size ∧ bt a0 0 = 96)) (hc2 : a0.size = 0 ∨ bt a0 0 ≠ 34) :
    Calls Tryd.prog 17 #[.string a0] w fun e w' => e = .returned (.tuple #[.string ⟨#[]⟩, .int .i64 106, .int .i64 0]) ∧ Below w.heap.size w w' := by
  by_cases h0 : a0.size = 0
  · have c1 : decide (1 < (a0.size : Int)) = false := decide_eq_false (by omega)
    have c4 : (a0.toList == ([] : List UInt8)) = true := by rw [beq_iff_eq]; apply List.eq_nil_of_length_eq_zero; rw [toList_len]; exact h0
    clear hc1 hc2 h0
    go_enter Tryd.func17, Tryd.ntmps17
    go_wp2
    go_ret3
    exact ⟨rfl, Below.refl _ _⟩
  · have h34 : bt a0 0 ≠ 34 := by rcases hc2 with h | h; exact absurd h h0; exact h
    have q5 : (0 < a0.size) = True := eq_true (by omega)
    have qi5 : (0 < (a0.size : Int)) = True := eq_true (by omega)
    have hx5 : ∀ h : 0 < a0.size, ((a0[0]'h).toNat : Int) = bt a0 0 := bt_at a0 0
    have c2' : (bt a0 0 != 34) = true := bne_iff_ne.mpr h34
    have c4 : (a0.toList == ([] : List UInt8)) = false := by rw [beq_eq_false_iff_ne]; intro e; have := toList_len a0; rw [e] at this; simp at this; omega
    by_cases h1 : 1 < a0.size
    · have c1 : decide (1 < (a0.size : Int)) = true := decide_eq_true (by omega)
      have c2 : (bt a0 0 == 96) = false := beq_eq_false_iff_ne.mpr (fun e => hc1 ⟨h1, e⟩)
      clear hc1 hc2 h34 h0
      go_enter Tryd.func17, Tryd.ntmps17
      go_wp2
      go_ret3
      exact ⟨rfl, Below.refl _ _⟩
    · have c1 : decide (1 < (a0.size : Int)) = false := decide_eq_false (by omega)
      clear hc1 hc2 h34 h0
      go_enter Tryd.func17, Tryd.ntmps17
      go_wp2
      go_ret3
      exact ⟨rfl, Below.refl _ _⟩
set_option maxHeartbeats 8000000 in
set_option maxRecDepth 100000 in
/-- A text in quotes: its loop. -/
theorem unquote_quoted (k : Nat) (a0 : ByteArray) (r1 : ByteArray) (r2 r3 : Int) (w : World) (HT : Tabs w) (hs : a0.size ≤ 140737488355328) (h0 : 0 < a0.size) (hc2 : bt a0 0 = 34)
    (A0 : Aside0 (token_Unquote.l0 k a0 1 [] = some (r1, r2, r3))) :
    Calls Tryd.prog 17 #[.string a0] w fun e w' => e = .returned (.tuple #[.string r1, .int .i64 r2, .int .i64 r3]) ∧ Below w.heap.size w w' := by
  have q5 : (0 < a0.size) = True := eq_true (by omega)
  have qi5 : (0 < (a0.size : Int)) = True := eq_true (by omega)
  have hx5 : ∀ h : 0 < a0.size, ((a0[0]'h).toNat : Int) = bt a0 0 := bt_at a0 0
  have c2 : (bt a0 0 == 96) = false := by rw [hc2]; rfl
  have c2' : (bt a0 0 != 34) = false := by rw [hc2]; rfl
  have c4 : (a0.toList == ([] : List UInt8)) = false := by rw [beq_eq_false_iff_ne]; intro e; have := toList_len a0; rw [e] at this; simp at this; omega
  have HI : Aside0 (Lib.IsBuilder 51 5 w.heap.size w.heap.size (Lib.byteCells []) (w.alloc (.cells #[.pointer none, .slice none 0 0] 51))) := by
    refine ⟨Or.inl ⟨Nat.le_refl _, .slice none 0 0, heap_alloc_new w _, ⟨rfl, Or.inl ⟨rfl, rfl⟩⟩, by simp [Value.ownBlock]⟩⟩
  have HB0 : Aside0 (Below w.heap.size w (w.alloc (.cells #[.pointer none, .slice none 0 0] 51))) := ⟨(Below.refl w.heap.size w).alloc (Nat.le_refl _) _⟩
  have hu51 := Tryd.underlying51
  clear hc2
  have hd : decide (1 < (a0.size : Int)) = true ∨ decide (1 < (a0.size : Int)) = false := by cases decide (1 < (a0.size : Int)) <;> simp
  rcases hd with c1 | c1
  all_goals
    go_enter Tryd.func17, Tryd.ntmps17
    go_wp2
    go_loopg [6] k (fun g v6 wx => ∃ (i : Nat) (acc : List UInt8), v6 = .int .i64 i ∧ i ≤ a0.size ∧ Aside0 (Lib.IsBuilder 51 5 w.heap.size w.heap.size (Lib.byteCells acc) wx) ∧ Aside0 (Below w.heap.size w wx) ∧ Aside0 (token_Unquote.l0 g a0 i acc = some (r1, r2, r3)))
    case atStart => exact ⟨1, [], rfl, by omega, HI, HB0, A0⟩
    case round =>
      clear HI HB0 A0
      obtain ⟨i, acc, rfl, hi, HI, HB, HA⟩ := hrel
      cases gk with
      | zero => exact absurd HA.out (by simp [token_Unquote.l0])
      | succ g =>
        have H := HA.out
        clear HA
        simp only [token_Unquote.l0] at H
        have hbw : w.heap.size ≤ wr.heap.size := HB.out.size
        by_cases hlt : i < a0.size
        · rw [if_pos hlt] at H
          have e1 : ((i : Int) < (a0.size : Int)) = True := eq_true (by omega)
          have e2 : (i < a0.size) = True := eq_true hlt
          have hx : ∀ h : i < a0.size, ((a0[i]'h).toNat : Int) = bt a0 i := fun h => bt_at a0 i h
          by_cases h10 : bt a0 i = 10
          · rw [if_pos h10] at H
            have d10 : (bt a0 i != 10) = false := by rw [h10]; rfl
            clear h10
            simp only [Option.some.injEq, Prod.mk.injEq] at H
            obtain ⟨rfl, rfl, rfl⟩ := H
            go_wp2
            go_ret3
            exact ⟨rfl, HB.out⟩
          · rw [if_neg h10] at H
            have d10 : (bt a0 i != 10) = true := bne_iff_ne.mpr h10
            clear h10
            by_cases h34 : bt a0 i = 34
            · rw [if_pos h34] at H
              have d34 : (bt a0 i == 34) = true := by rw [h34]; rfl
              clear h34
              by_cases hl : i + 1 = a0.size
              · rw [if_pos hl] at H
                have dl : ((i : Int) + 1 == (a0.size : Int)) = true := beq_iff_eq.mpr (by omega)
                clear hl
                simp only [Option.some.injEq, Prod.mk.injEq] at H
                obtain ⟨rfl, rfl, rfl⟩ := H
                go_wp2_with (go_at_call 42; refine (Tryd.Builder_String_any w.heap.size w.heap.size acc _ HI.out hbw).mono ?_; rintro e w8 ⟨rfl, hb⟩)
                go_ret3
                exact ⟨rfl, HB.out.trans hb⟩
              · rw [if_neg hl] at H
                have dl : ((i : Int) + 1 == (a0.size : Int)) = false := beq_eq_false_iff_ne.mpr (by omega)
                clear hl
                simp only [Option.some.injEq, Prod.mk.injEq] at H
                obtain ⟨rfl, rfl, rfl⟩ := H
                go_wp2
                go_ret3
                exact ⟨rfl, HB.out⟩
            · rw [if_neg h34] at H
              have d34 : (bt a0 i == 34) = false := beq_eq_false_iff_ne.mpr h34
              clear h34
              by_cases h92 : bt a0 i = 92
              · rw [if_pos h92] at H
                have d92 : (bt a0 i != 92) = false := by rw [h92]; rfl
                clear h92
                replace H := Option.bind_eq_some_iff.mp H
                obtain ⟨⟨n, b, m, ok⟩, AE, H⟩ := H
                have AE' := Aside0.mk AE
                clear AE
                have c3 : ((i : Int) + 1 ≤ (a0.size : Int)) = True := eq_true (by omega)
                have c4 : ((i : Int) + 1).toNat = i + 1 := by omega
                have c5 : (0 : Int) ≤ (i : Int) + 1 := by omega
                by_cases hok : ok = true
                · subst hok
                  simp only [if_true] at H
                  by_cases hcnd : acc.length + b.size ≤ 140737488355328 ∧ 0 ≤ m ∧ (i : Int) + 1 + m ≤ a0.size
                  · rw [if_pos hcnd] at H
                    obtain ⟨g1, g2, g3⟩ := hcnd
                    have H' := Aside0.mk H
                    clear H
                    have hbl : b.data.toList.length = b.size := by rw [Array.length_toList]; rfl
                    have enext : Lib.byteCells acc ++ Lib.strCells b = Lib.byteCells (acc ++ b.data.toList) := by rw [Lib.strCells_eq, ← Lib.byteCells_append]
                    have EN := Aside0.mk enext
                    clear enext hbl
                    go_wp2_with (first | (go_at_call 44; refine (token_escape.calls g _ _ n b m true _ AE'.out).mono ?_; rintro e w8 ⟨rfl, hb⟩; have HI2 := Aside0.mk (builder_below hb HI.out); have hbw2 : w.heap.size ≤ w8.heap.size := Nat.le_trans hbw hb.size) | (go_at_call 45; refine (Tryd.Builder_WriteString w.heap.size w.heap.size _ b _ HI2.out (by rw [Lib.byteCells_length]; exact g1) hbw2).mono ?_; rintro e w9 ⟨rfl, hw, hb2⟩; rw [EN.out] at hw))
                    go_roundg g
                    case measure => omega
                    case rel => exact ⟨i + 1 + m.toNat, _, by go_num, by omega, ⟨Or.inr hw⟩, ⟨(HB.out.trans (hb.mono hbw)).trans hb2⟩, H'⟩
                  · rw [if_neg hcnd] at H
                    cases H
                · replace hok := Bool.eq_false_iff.mpr hok
                  subst hok
                  have H1 : (some (⟨#[]⟩, 108, (i : Int)) : Option (ByteArray × Int × Int)) = some (r1, r2, r3) := H
                  clear H
                  simp only [Option.some.injEq, Prod.mk.injEq] at H1
                  obtain ⟨rfl, rfl, rfl⟩ := H1
                  go_wp2_with (go_at_call 44; refine (token_escape.calls g _ _ n b m false _ AE'.out).mono ?_; rintro e w8 ⟨rfl, hb⟩)
                  go_ret3
                  exact ⟨rfl, HB.out.trans (hb.mono hbw)⟩
              · rw [if_neg h92] at H
                have d92 : (bt a0 i != 92) = true := bne_iff_ne.mpr h92
                clear h92
                by_cases hlen : acc.length + 1 ≤ 140737488355328
                · rw [if_pos hlen] at H
                  have H' := Aside0.mk H
                  clear H
                  have hbr := bt_range a0 i
                  have enext : Lib.byteCells acc ++ [Value.int .u8 (bt a0 i)] = Lib.byteCells (acc ++ [(bt a0 i).toNat.toUInt8]) := byteCells_snoc acc _ hbr.1 hbr.2
                  have EN := Aside0.mk enext
                  clear enext hbr
                  go_wp2_with (go_at_call 43; refine (Tryd.Builder_WriteByte w.heap.size w.heap.size _ (bt a0 i) _ HI.out (by rw [Lib.byteCells_length]; exact hlen) hbw).mono ?_; rintro e w8 ⟨rfl, hw, hb⟩; rw [EN.out] at hw)
                  go_roundg g
                  case measure => omega
                  case rel => exact ⟨i + 1, _, by go_num, by omega, ⟨Or.inr hw⟩, ⟨HB.out.trans hb⟩, H'⟩
                · rw [if_neg hlen] at H
                  cases H
        · rw [if_neg hlt] at H
          have e1 : decide ((i : Int) < (a0.size : Int)) = false := decide_eq_false (by omega)
          have e2 : decide (i < a0.size) = false := decide_eq_false hlt
          clear hlt
          simp only [Option.some.injEq, Prod.mk.injEq] at H
          obtain ⟨rfl, rfl, rfl⟩ := H
          go_wp2
          go_ret3
          exact ⟨rfl, HB.out⟩
theorem token_Unquote.calls (k : Nat) (a0 : ByteArray) (r1 : ByteArray) (r2 r3 : Int) (w : World) (HT : Tabs w) (h : token_Unquote.f k a0 = some (r1, r2, r3)) :
    Calls Tryd.prog 17 #[.string a0] w fun e w' => e = .returned (.tuple #[.string r1, .int .i64 r2, .int .i64 r3]) ∧ Below w.heap.size w w' := by
  unfold token_Unquote.f at h
  by_cases hs : a0.size ≤ 140737488355328
  · rw [if_pos hs] at h
    by_cases hc : 1 < a0.size ∧ bt a0 0 = 96
    · rw [if_pos hc] at h
      obtain ⟨t, ht, h⟩ := Option.bind_eq_some_iff.mp h
      by_cases he : t = (a0.size : Int) - 2
      · rw [if_pos he] at h
        simp only [Option.some.injEq, Prod.mk.injEq] at h
        obtain ⟨rfl, rfl, rfl⟩ := h
        exact unquote_raw a0 t w HT hs hc.1 hc.2 ⟨ht⟩ he
      · rw [if_neg he] at h
        simp only [Option.some.injEq, Prod.mk.injEq] at h
        obtain ⟨rfl, rfl, rfl⟩ := h
        exact unquote_rawbad a0 t w hs hc.1 hc.2 ⟨ht⟩ he
    · rw [if_neg hc] at h
      by_cases h2 : a0.size = 0 ∨ bt a0 0 ≠ 34
      · rw [if_pos h2] at h
        simp only [Option.some.injEq, Prod.mk.injEq] at h
        obtain ⟨rfl, rfl, rfl⟩ := h
        exact unquote_none a0 w hs hc h2
      · rw [if_neg h2] at h
        exact unquote_quoted k a0 r1 r2 r3 w HT hs (by omega) (by
          rcases Classical.em (bt a0 0 = 34) with e | e
          · exact e
          · exact absurd (Or.inr e) h2) ⟨h⟩
  · rw [if_neg hs] at h
    cases h
end Go.Proofs.YtkpceagbjodbbaaDoor.Ext
