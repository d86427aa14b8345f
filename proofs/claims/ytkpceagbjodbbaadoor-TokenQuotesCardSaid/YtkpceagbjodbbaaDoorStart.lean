/- What the rows' listed variables give the walks, and a world that holds them. Own work. -/
import Derived.Test.YtkpceagbjodbbaaDoorRows
import Derived.Test.YtkpceagbjodbbaaDoorX1
import Derived.ProofKit
import Derived.OpenShut
import Derived.Deep.DeepHandedRow
import Derived.Lib.LaidTab
import Derived.MakeChecks
namespace Go.Proofs.YtkpceagbjodbbaaDoor.Start
open Go.ChangeShapes Go.WideShapes Go.ChangeAt Go.RowKit

theorem own : ownKnob Tryd.prog.godebug = none := by kernel_rfl
/-- The list of every row of this seat. -/
def laid : List (String × DataW Unit) := [("unicode/utf8.acceptRanges", Rows.laid_unicode_utf8_acceptRanges), ("unicode/utf8.first", Rows.laid_unicode_utf8_first)]
theorem accept_is : (Rows.laid_unicode_utf8_acceptRanges : DataW Unit) = Lib.acceptData := by kernel_rfl
theorem first_is : (Rows.laid_unicode_utf8_first : DataW Unit) = Lib.firstData := by kernel_rfl
theorem u8extra : U8Extra Tryd.prog Tryd.lays260_ren := {
  n3 := by kernel_rfl
  n4 := by kernel_rfl
  y3 := by kernel_rfl
  y4 := by kernel_rfl
  c5 := by kernel_rfl
  c119 := by kernel_rfl
  c138 := by kernel_rfl }
theorem tabs {W : World} (h : laidMetH Tryd.prog laid W) (hs : W.ShapedOpen Tryd.prog) : Ext.Tabs W := by
  rw [MakeChecks.laidMetH_plain _ _ _ (by kernel_rfl)] at h
  refine ⟨Tryd.laysM143.s1_3 W hs, ?_⟩
  exact utf8Tabs_of_reads Tryd.lays260 u8extra (by rw [← first_is]; exact Lib.laidMet.reads h (by simp [laid])) (by rw [← accept_is]; exact Lib.laidMet.reads h (by simp [laid]))

/-- A world for the witnesses: the settled one, the two tables holding what their initialisers lay. -/
noncomputable def laidWorld (os : Os) (ws : Array Value) : World :=
  let first : Obj → Obj := fun o => match o with
    | .cells _ t frozen => .cells (Lib.firstTab.map (Value.int .u8)).toArray t frozen
    | o => o
  let accept : Obj → Obj := fun o => match o with
    | .cells _ t frozen => .cells ((List.range 16).flatMap fun i => [Value.int .u8 (Lib.accLo i), Value.int .u8 (Lib.accHi i)]).toArray t frozen
    | o => o
  { World.holding Tryd.prog os ⟨#[], ws, []⟩ with heap := ((World.holding Tryd.prog os ⟨#[], ws, []⟩).heap.modify 0 first).modify 1 accept }
theorem laid_met (os : Os) : laidMet Tryd.prog laid ((laidWorld os #[.string ByteArray.empty]).forCall (fun _ _ => 0) ⟨#[], #[.string ByteArray.empty], []⟩).memory :=
  laidMet_of_run' 8 (by kernel_rfl) (by kernel_rfl)
end Go.Proofs.YtkpceagbjodbbaaDoor.Start
