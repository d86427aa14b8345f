/- strings.ReplaceAll where one byte is taken away: for texts of any size. Own work, along the shelf's own walk of strings.Replace. -/
import Derived.Test.YtkpceagbjodbbaaDoorX1
import Derived.Test.YtkpceagbjodbbaaDoorPlain
import Derived.WalkKit
import Derived.LoopTactic
import Derived.Deep.LoopGhost
namespace Go.Proofs.YtkpceagbjodbbaaDoor.Ext
open Go.RowKit Go.Shelf Go.Proofs.YtkpceagbjodbbaaDoorW.PrintWords Go.Proofs.YtkpceagbjodbbaaDoorW.PrintLast Go.Proofs.YtkpceagbjodbbaaDoorW.PrintMore
set_option linter.unusedVariables false
set_option linter.unusedSimpArgs false
/-- A text without its carriage returns. -/
def dropR (s : ByteArray) : ByteArray := ⟨(s.data.toList.filter (· != 13)).toArray⟩
theorem index_r (x : ByteArray) (w : World) : Calls Tryd.prog 52 #[.string x, .string ⟨#[13]⟩] w fun e w' => e = .returned (.int .i64 (Lib.indexByte x.data.toList 13)) ∧ w' = w :=
  Any.strings_Index_one { Tryd.lays154 with } x 13 w
theorem count_r (x : ByteArray) (w : World) : Calls Tryd.prog 63 #[.string x, .string ⟨#[13]⟩] w fun e w' => e = .returned (.int .i64 (Lib.countByte x.data.toList 13)) ∧ w' = w :=
  Any.strings_Count_one { Tryd.lays154 with } x 13 w
theorem grow_r (n : Nat) (w w0 : World) (B : Nat) (hbk : w.heap[B]? = some (.cells #[.pointer none, .slice none 0 0] 51 (0, 0))) (hBw : B ≤ w.heap.size) (hn : n ≤ 281474976710656) :
    Calls Tryd.prog 64 #[.pointer (some ⟨B, 0, none⟩), .int .i64 n] w fun e w' => e = .returned (.tuple #[]) ∧ (Lib.BuilderAt 51 5 B B (.pointer (some ⟨B, 0, none⟩)) [] w' ∧ Below B w w') :=
  Any.Builder_Grow_fresh { Tryd.lays154 with } Tryd.Builder_Extra_154 B B n w (Nat.le_refl _) hbk hBw hn
theorem write_r (B b : Nat) (bs : List Value) (s : ByteArray) (w : World) (h : Lib.IsBuilder 51 5 B b bs w) (hlen : bs.length + s.size ≤ 140737488355328) (hBw : B ≤ w.heap.size) :
    Calls Tryd.prog 45 #[.pointer (some ⟨b, 0, none⟩), .string s] w fun e w' => e = .returned (.tuple #[.int .i64 s.size, .nilIface]) ∧ (Lib.BuilderAt 51 5 B b (.pointer (some ⟨b, 0, none⟩)) (bs ++ Lib.strCells s) w' ∧ Below B w w') :=
  Any.Builder_WriteString { Tryd.lays154 with } Tryd.Builder_Extra_154 B b bs s w h hlen hBw
theorem str_r (B b : Nat) (l : List UInt8) (w : World) (h : Lib.IsBuilder 51 5 B b (Lib.byteCells l) w) (hBw : B ≤ w.heap.size) :
    Calls Tryd.prog 42 #[.pointer (some ⟨b, 0, none⟩)] w fun e w' => e = .returned (.string ⟨l.toArray⟩) ∧ Below B w w' := Tryd.Builder_String_any B b l w h hBw
theorem size_list (s : ByteArray) : s.data.toList.length = s.size := by rw [Array.length_toList]; rfl
theorem filter_keep (l : List UInt8) (h : l.count 13 = 0) : l.filter (· != 13) = l := Plain.filter_not 13 l (List.count_eq_zero.1 h)
set_option maxHeartbeats 16000000 in
set_option maxRecDepth 1000000 in
theorem replace_r (s : ByteArray) (w : World) (hs : s.size ≤ 140737488355328) :
    Calls Tryd.prog 53 #[.string s, .string ⟨#[13]⟩, .string ⟨#[]⟩, .int .i64 (-1)] w fun e w' => e = .returned (.string (dropR s)) ∧ Below w.heap.size w w' := by
  have hlenL := size_list s
  obtain ⟨K, hK⟩ : ∃ K : Nat, Lib.countByte s.data.toList 13 = K := ⟨_, rfl⟩
  have hKc : s.data.toList.count 13 = K := hK
  have hKs : K ≤ s.size := by rw [← hKc, ← hlenL]; exact List.count_le_length
  have hC := count_r s w
  rw [hK] at hC
  by_cases h0 : K = 0
  · subst h0
    have hd : dropR s = s := by unfold dropR; rw [filter_keep _ hKc]
    rw [hd]
    go_enter Tryd.func53, Tryd.ntmps53
    go_wp2_with (go_at_call 63; refine hC.mono ?_; rintro e w' ⟨rfl, hw⟩; rw [hw])
    go_ret
    exact ⟨rfl, Below.refl _ _⟩
  · have hcz : ((K : Int) == 0) = false := beq_eq_false_iff_ne.2 (by omega)
    have hga : (s.size : Int) + -(K : Int) = ((s.size - K : Nat) : Int) := by omega
    have HI : Aside0 (Lib.IsBuilder 51 5 w.heap.size w.heap.size (Lib.byteCells []) (w.alloc (.cells #[.pointer none, .slice none 0 0] 51))) := by
      refine ⟨Or.inl ⟨Nat.le_refl _, .slice none 0 0, heap_alloc_new w _, ⟨rfl, Or.inl ⟨rfl, rfl⟩⟩, by simp [Value.ownBlock]⟩⟩
    clear hK
    go_enter Tryd.func53, Tryd.ntmps53
    go_wp2_with (go_at_call 63; refine hC.mono ?_; rintro e w' ⟨rfl, hw⟩; rw [hw])
    clear hC hcz
    try rw [hga]
    refine (grow_r (s.size - K) _ w w.heap.size (heap_alloc_new w _) (by simp) (by omega)).mono ?_
    rintro e w1 ⟨rfl, hb0, hb1⟩
    have H1 : Aside0 (Lib.IsBuilder 51 5 w.heap.size w.heap.size (Lib.byteCells []) w1) := ⟨Or.inr hb0⟩
    have Hb1 : Aside0 (Below w.heap.size w w1) := ⟨((Below.refl w.heap.size w).alloc (Nat.le_refl _) _).trans hb1⟩
    clear hb0 hb1 hga HI
    go_wp2
    go_loopg [11, 53] K (fun g s11 s53 wx => ∃ (i start : Nat) (acc : List UInt8), s53 = .int .i64 i ∧ s11 = .int .i64 start ∧ i + g = K ∧ start ≤ s.size ∧
      Aside0 (Lib.IsBuilder 51 5 w.heap.size w.heap.size (Lib.byteCells acc) wx) ∧ Aside0 (Below w.heap.size w wx) ∧ Aside0 (acc ++ (s.data.toList.drop start).filter (· != 13) = s.data.toList.filter (· != 13)) ∧ Aside0 ((s.data.toList.drop start).count 13 = g) ∧ acc.length ≤ start)
    case atStart => exact ⟨0, 0, [], rfl, rfl, by omega, Nat.zero_le _, H1, Hb1, ⟨by simp⟩, ⟨by rw [List.drop_zero]; exact hKc⟩, Nat.le_refl _⟩
    case round =>
      clear H1 Hb1
      obtain ⟨i, start, acc, rfl, rfl, hig, hst, HB, HW, HR, HG, hbd⟩ := hrel
      have hBw : w.heap.size ≤ wr.heap.size := HW.out.size
      have c1 : (0 : Int) ≤ (start : Int) := by omega
      have c2 : ((start : Int) ≤ (s.size : Int)) = True := eq_true (by omega)
      cases gk with
      | zero =>
        have hiK : decide ((i : Int) < (K : Int)) = false := decide_eq_false (by omega)
        have hiK' : ((i : Int) < (K : Int)) = False := eq_false (by omega)
        have hx : (Lib.byteCells acc).length + (s.extract start s.size).size ≤ 140737488355328 := by rw [Lib.byteCells_length, ByteArray.size_extract]; omega
        have enext : Lib.byteCells acc ++ Lib.strCells (s.extract start s.size) = Lib.byteCells (s.data.toList.filter (· != 13)) := by
          rw [Lib.strCells_eq, Lib.extract_to_end, ← Lib.byteCells_append, ← HR.out, filter_keep _ HG.out]
        have EN := Aside0.mk enext
        have HX := Aside0.mk hx
        clear enext hx
        go_wp2_with (first | (go_at_call 45; refine (write_r w.heap.size w.heap.size _ (s.extract start s.size) wr HB.out HX.out hBw).mono ?_; rintro e w3 ⟨rfl, h3, hb3⟩; rw [EN.out] at h3; have hBw3 : w.heap.size ≤ w3.heap.size := Nat.le_trans hBw hb3.size) | (go_at_call 42; refine (str_r w.heap.size w.heap.size _ w3 (Or.inr h3) hBw3).mono ?_; rintro e w5 ⟨rfl, hb5⟩))
        go_ret
        exact ⟨rfl, (HW.out.trans hb3).trans hb5⟩
      | succ g =>
        have hiK : decide ((i : Int) < (K : Int)) = true := decide_eq_true (by omega)
        have hiK' : ((i : Int) < (K : Int)) = True := eq_true (by omega)
        have hmem : 13 ∈ s.data.toList.drop start := List.count_pos_iff.1 (by rw [HG.out]; omega)
        obtain ⟨a, b, hab, ha⟩ := Plain.split_at 13 _ hmem
        have hj : Lib.indexByte (s.data.toList.drop start) 13 = (a.length : Int) := by rw [hab, Plain.indexByte_at 13 a b ha]
        have hlen : a.length + 1 + b.length = s.size - start := by
          have := congrArg List.length hab
          rw [List.length_drop, hlenL, List.length_append, List.length_cons] at this
          omega
        obtain ⟨j, hja⟩ : ∃ j, a.length = j := ⟨_, rfl⟩
        rw [hja] at hj hlen
        have hdb : s.data.toList.drop (start + j + 1) = b := by
          rw [Nat.add_assoc, ← List.drop_drop, hab, ← hja]
          simp
        have hea : (s.extract start (start + j)).data.toList = a := by
          rw [Lib.extract_data, Nat.add_sub_cancel_left, hab, ← hja]
          simp
        have hca : a.count 13 = 0 := List.count_eq_zero.2 ha
        have hnew : (acc ++ a) ++ (s.data.toList.drop (start + j + 1)).filter (· != 13) = s.data.toList.filter (· != 13) := by
          rw [hdb, ← HR.out, hab, List.filter_append, filter_keep a hca]
          simp
        have hcnt : (s.data.toList.drop (start + j + 1)).count 13 = g := by
          have := HG.out
          rw [hab, List.count_append, hca, List.count_cons] at this
          rw [hdb]
          simpa using this
        have enext : Lib.byteCells acc ++ Lib.strCells (s.extract start (start + j)) = Lib.byteCells (acc ++ a) := by
          rw [Lib.strCells_eq, ← Lib.byteCells_append, hea]
        have enil : Lib.byteCells (acc ++ a) ++ Lib.strCells (⟨#[]⟩ : ByteArray) = Lib.byteCells (acc ++ a) := by
          rw [Lib.strCells_eq, ← Lib.byteCells_append]; simp
        have hx : (Lib.byteCells acc).length + (s.extract start (start + j)).size ≤ 140737488355328 := by rw [Lib.byteCells_length, ByteArray.size_extract]; omega
        have hx2 : (Lib.byteCells (acc ++ a)).length + (⟨#[]⟩ : ByteArray).size ≤ 140737488355328 := by rw [Lib.byteCells_length, List.length_append, hja]; show acc.length + j + 0 ≤ _; omega
        have hal : (acc ++ a).length ≤ start + j + 1 := by rw [List.length_append, hja]; omega
        have c3 : ((start : Int) ≤ (start : Int) + (j : Int)) = True := eq_true (by omega)
        have c4 : ((start : Int) + (j : Int) ≤ (s.size : Int)) = True := eq_true (by omega)
        have c5 : ((start : Int) + (j : Int)).toNat = start + j := by omega
        have hjs : start + j + 1 ≤ s.size := by omega
        have EN := Aside0.mk enext; have EZ := Aside0.mk enil; have HX := Aside0.mk hx; have HX2 := Aside0.mk hx2; have HN := Aside0.mk hnew; have HCN := Aside0.mk hcnt
        have hI := fun w => index_r (s.extract start s.size) w
        rw [Lib.extract_to_end, hj] at hI
        clear enext enil hx hx2 hnew hcnt hmem hab ha hj hlen hja hdb hea hca HR HG
        go_wp2_with (first | (go_at_call 52; refine (hI _).mono ?_; rintro e w' ⟨rfl, hw⟩; rw [hw]) | (go_at_call 45; refine (write_r w.heap.size w.heap.size _ (⟨#[]⟩ : ByteArray) w3 (Or.inr h3) HX2.out hBw3).mono ?_; rintro e w4 ⟨rfl, h4, hb4⟩; rw [EZ.out] at h4) | (go_at_call 45; refine (write_r w.heap.size w.heap.size _ (s.extract start (start + j)) wr HB.out HX.out hBw).mono ?_; rintro e w3 ⟨rfl, h3, hb3⟩; rw [EN.out] at h3; have hBw3 : w.heap.size ≤ w3.heap.size := Nat.le_trans hBw hb3.size))
        go_roundg g
        case measure => omega
        case rel => exact ⟨i + 1, start + j + 1, acc ++ a, by first | rfl | go_num, by first | rfl | go_num, by omega, hjs, ⟨Or.inr h4⟩, ⟨(HW.out.trans hb3).trans hb4⟩, HN, HCN, hal⟩
theorem replaceAll_r (s : ByteArray) (w : World) (hs : s.size ≤ 140737488355328) :
    Calls Tryd.prog 38 #[.string s, .string ⟨#[13]⟩, .string ⟨#[]⟩] w fun e w' => e = .returned (.string (dropR s)) ∧ Below w.heap.size w w' := by
  go_enter Tryd.func38, Tryd.ntmps38
  go_wp2_with (go_at_call 53; refine (replace_r s _ hs).mono ?_; rintro e w' ⟨rfl, hb⟩)
  go_ret
  exact ⟨rfl, hb⟩
end Go.Proofs.YtkpceagbjodbbaaDoor.Ext
