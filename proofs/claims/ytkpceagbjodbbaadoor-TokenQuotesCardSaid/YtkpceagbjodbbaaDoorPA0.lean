-- Printed by a program of this session (wip/xprint.py) for this claim: Lean checks it.
import Derived.Test.YtkpceagbjodbbaaDoorProg
import Derived.Below
import Derived.Deep.Draws
import Derived.Deep.AppendLies
import Derived.Maps.AppendAt
import Derived.OwnWalk
import Derived.Laws.BytesArg
import Derived.Laws.MakeOwn
import Derived.Laws.OwnMore
import Derived.Deep.OwnRows
import Derived.Tactics
import Derived.Lib.ConvBytes
import Derived.Laws.Slices
import Derived.WalkKit
import Derived.KernelRfl
import Derived.RowKit3
import Derived.Deep.LoopGhost
import Derived.Deep.QuietTactic
import Derived.BigQuiet
import Derived.WideLaws
import Derived.Deep.DeepCutAuto
import Derived.Deep.CutBlock
import Derived.Deep.RegionHeld3
import Derived.Laws.Rows
import Derived.Lib.AppendStr
import Derived.ArgAppend
import Derived.Laws.IdiomCopy
import Derived.OrdersHeld
import Derived.Laws.BitsLemmas
import Derived.RowKit
import Derived.Test.YtkpceagbjodbbaaDoorX1
import Derived.Test.YtkpceagbjodbbaaDoorWWords
import Derived.Test.YtkpceagbjodbbaaDoorWLast
import Derived.Test.YtkpceagbjodbbaaDoorWTab
import Derived.Test.YtkpceagbjodbbaaDoorWFour
import Derived.Test.YtkpceagbjodbbaaDoorWQPut
import Derived.Test.YtkpceagbjodbbaaDoorWApart
import Derived.Test.YtkpceagbjodbbaaDoorWArr
import Derived.Test.YtkpceagbjodbbaaDoorWZeros
import Derived.Test.YtkpceagbjodbbaaDoorWFoot
import Derived.Test.YtkpceagbjodbbaaDoorWKept
import Derived.Test.YtkpceagbjodbbaaDoorWShare
import Derived.Test.YtkpceagbjodbbaaDoorWN
import Derived.Test.YtkpceagbjodbbaaDoorWFootNe
import Derived.Test.YtkpceagbjodbbaaDoorWAt
import Derived.Test.YtkpceagbjodbbaaDoorWEqStruct
import Derived.Test.YtkpceagbjodbbaaDoorWRepsOne
import Derived.Test.YtkpceagbjodbbaaDoorWInv
import Derived.Test.YtkpceagbjodbbaaDoorWInvWords
import Derived.Test.YtkpceagbjodbbaaDoorWGuard
import Derived.Test.YtkpceagbjodbbaaDoorWNEv
import Derived.Test.YtkpceagbjodbbaaDoorWMore
namespace Go.Proofs.YtkpceagbjodbbaaDoor.PA
open Go.RowKit Go.Proofs.YtkpceagbjodbbaaDoor.Ext Go.Proofs.YtkpceagbjodbbaaDoorW.PrintWords Go.Proofs.YtkpceagbjodbbaaDoorW.PrintLast Go.Proofs.YtkpceagbjodbbaaDoorW.PrintMore
attribute [local go_sem] max2_int min2_int max_two min_two max_three min_three max_four min_four   -- for this text's walks alone
set_option linter.unusedVariables false
set_option linter.unusedSimpArgs false



def errW : Option Int → Value
  | none => .nilIface
  | some c => .iface 0 (.int .i64 c)
theorem errW_none : errW none = .nilIface := rfl
theorem errW_some (c : Int) : errW (some c) = .iface 0 (.int .i64 c) := rfl

theorem info3 : (Tryd.prog.info? 3).map (fun i => (i.zero, i.size, i.bytes)) = some (some (.int .i64 0), 1, 8) := by kernel_rfl
theorem info5 : (Tryd.prog.info? 5).map (fun i => (i.zero, i.size, i.bytes)) = some (some (.int .u8 0), 1, 1) := by kernel_rfl
theorem info9 : (Tryd.prog.info? 9).map (fun i => (i.zero, i.size, i.bytes)) = some (some (.string ⟨#[]⟩), 1, 16) := by kernel_rfl
-- the values' own types

end Go.Proofs.YtkpceagbjodbbaaDoor.PA
