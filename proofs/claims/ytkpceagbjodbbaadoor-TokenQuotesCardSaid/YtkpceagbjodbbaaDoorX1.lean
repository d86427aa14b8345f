/- Contracts of library functions, in the form that the printed texts take, out of the shelf's. Own work. -/
import Derived.Test.YtkpceagbjodbbaaDoorShelf
import Derived.Test.YtkpceagbjodbbaaDoorWMore
import Derived.Lib.LaidU8
namespace Go.Proofs.YtkpceagbjodbbaaDoor.PA
end Go.Proofs.YtkpceagbjodbbaaDoor.PA
namespace Go.Proofs.YtkpceagbjodbbaaDoor.Ext
open Go.RowKit Go.Proofs.YtkpceagbjodbbaaDoorW.PrintWords Go.Proofs.YtkpceagbjodbbaaDoorW.PrintLast Go.Proofs.YtkpceagbjodbbaaDoorW.PrintMore
set_option linter.unusedVariables false

theorem isEmpty_bne (l : List UInt8) : l.isEmpty = !(l != []) := by cases l <;> rfl
theorem extract_all (s : ByteArray) : s.extract (0 : Int).toNat s.size = s := by simp
/-- What the library's variables hold. -/
def Tabs (w : World) : Prop := (∃ m : Int, w.cell? ⟨2, 0, none⟩ = some (.int .i64 m)) ∧ Lib.Utf8Tabs 0 1 w
theorem Tabs.below {w w' : World} (h : Tabs w) (hb : Below w.heap.size w w') : Tabs w' := by
  obtain ⟨⟨m, hm⟩, hu⟩ := h
  exact ⟨⟨m, by rw [hb.cell (p := ⟨2, 0, none⟩) (World.block_lt_of_cell? _ _ hm)]; exact hm⟩, Utf8Tabs_below hu hb⟩

def strings_Contains.f (a0 a1 : ByteArray) : Option Bool := if a0.size < 4294967281 then some (Lib.contains a0.data.toList a1.data.toList) else none
theorem strings_Contains.calls (a0 a1 : ByteArray) (r : Bool) (w : World) (HT : Tabs w) (h : strings_Contains.f a0 a1 = some r) :
    Calls Tryd.prog 37 #[.string a0, .string a1] w fun e w' => e = .returned (.bool r) ∧ Below w.heap.size w w' := by
  obtain ⟨⟨m, hm⟩, hu⟩ := HT
  unfold strings_Contains.f at h
  split at h
  · rename_i hs
    cases h
    refine (Tryd.strings_Contains a0 a1 m w hs hm).mono ?_
    rintro e w' ⟨rfl, rfl⟩
    exact ⟨rfl, Below.refl _ _⟩
  · cases h

def strings_IndexByte.f (a0 : ByteArray) (a1 : Int) : Option Int := some (Lib.indexByte a0.data.toList a1.toNat.toUInt8)
theorem strings_IndexByte.calls (a0 : ByteArray) (a1 : Int) (r : Int) (w : World) (h : strings_IndexByte.f a0 a1 = some r) :
    Calls Tryd.prog 41 #[.string a0, .int .u8 a1] w fun e w' => e = .returned (.int .i64 r) ∧ Below w.heap.size w w' := by
  cases h
  refine (Tryd.strings_IndexByte a0 a1 w).mono ?_
  rintro e w' ⟨rfl, rfl⟩
  exact ⟨rfl, Below.refl _ _⟩

def utf8_DecodeRuneInString.f (a0 : ByteArray) : Option (Int × Int) := some (((Lib.decodeGo a0).1 : Int), ((Lib.decodeGo a0).2 : Int))
theorem utf8_DecodeRuneInString.calls (a0 : ByteArray) (r1 r2 : Int) (w : World) (HT : Tabs w) (h : utf8_DecodeRuneInString.f a0 = some (r1, r2)) :
    Calls Tryd.prog 47 #[.string a0] w fun e w' => e = .returned (.tuple #[.int .i32 r1, .int .i64 r2]) ∧ Below w.heap.size w w' := by
  obtain ⟨hm, hu⟩ := HT
  refine (Tryd.utf8_DecodeRuneInString a0 w hu).mono ?_
  rintro e w' ⟨rfl, hb⟩
  cases h
  exact ⟨rfl, hb⟩

def strings_ReplaceAll.f (a0 a1 a2 : ByteArray) : Option ByteArray :=
  if a0.size < 4294967281 ∧ 1 ≤ a1.size ∧ a0.size + Lib.countB a0 a1 * a2.size ≤ 140737488355328 then some ⟨(Lib.replaceAll a0.data.toList a1.data.toList a2.data.toList).toArray⟩ else none
theorem strings_ReplaceAll.calls (a0 a1 a2 : ByteArray) (r : ByteArray) (w : World) (HT : Tabs w) (h : strings_ReplaceAll.f a0 a1 a2 = some r) :
    Calls Tryd.prog 38 #[.string a0, .string a1, .string a2] w fun e w' => e = .returned (.string r) ∧ Below w.heap.size w w' := by
  obtain ⟨⟨m, hm⟩, hu⟩ := HT
  unfold strings_ReplaceAll.f at h
  split at h
  · rename_i hs
    cases h
    exact Tryd.strings_ReplaceAll a0 a1 a2 m w hs.1 hm hs.2.1 hs.2.2
  · cases h
end Go.Proofs.YtkpceagbjodbbaaDoor.Ext
