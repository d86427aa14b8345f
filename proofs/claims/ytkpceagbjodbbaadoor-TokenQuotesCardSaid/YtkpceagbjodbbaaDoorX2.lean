/- The contract of token.Unquote (it writes to a strings.Builder): what it computes as a plain function, and its walk. Own work. -/
import Derived.Test.YtkpceagbjodbbaaDoorPA3
import Derived.Test.YtkpceagbjodbbaaDoorXR
import Derived.Test.YtkpceagbjodbbaaDoorX1
import Derived.WalkKit
import Derived.LoopTactic
import Derived.Deep.LoopGhost
namespace Go.Proofs
open Go.Shelf Go.RowKit
/-- Where the builder's functions stand in this program. -/
def Tryd.laysB_ren : Go.Shelf.Ren := ⟨fun | 167 => 43 | n => Tryd.lays154_ren.f n, Tryd.lays154_ren.t, Tryd.lays154_ren.g⟩
theorem Tryd.laysB : Lays.n167 Tryd.prog Tryd.laysB_ren := { Tryd.lays154 with
  f167 := Tryd.func43.trans (congrArg some (by kernel_rfl))
  f240 := Tryd.func56.trans (congrArg some (by kernel_rfl))
  f276 := Tryd.func66.trans (congrArg some (by kernel_rfl)) }
theorem Tryd.laysB_Extra : Builder.Extra Tryd.prog Tryd.laysB_ren := { Tryd.Builder_Extra_154 with }
theorem Tryd.Builder_WriteByte (B b : Nat) (bs : List Value) (c : Int) (w : World) (h : Lib.IsBuilder 51 5 B b bs w) (hlen : bs.length + 1 ≤ 140737488355328) (hBw : B ≤ w.heap.size) :
    Calls Tryd.prog 43 #[.pointer (some ⟨b, 0, none⟩), .int .u8 c] w fun e w' => e = .returned .nilIface ∧ (Lib.BuilderAt 51 5 B b (.pointer (some ⟨b, 0, none⟩)) (bs ++ [.int .u8 c]) w' ∧ Below B w w') :=
  Any.Builder_WriteByte Tryd.laysB Tryd.laysB_Extra B b bs c w h hlen hBw
theorem Tryd.Builder_WriteString (B b : Nat) (bs : List Value) (s : ByteArray) (w : World) (h : Lib.IsBuilder 51 5 B b bs w) (hlen : bs.length + s.size ≤ 140737488355328) (hBw : B ≤ w.heap.size) :
    Calls Tryd.prog 45 #[.pointer (some ⟨b, 0, none⟩), .string s] w fun e w' => e = .returned (.tuple #[.int .i64 s.size, .nilIface]) ∧ (Lib.BuilderAt 51 5 B b (.pointer (some ⟨b, 0, none⟩)) (bs ++ Lib.strCells s) w' ∧ Below B w w') :=
  Any.Builder_WriteString { Tryd.lays154 with } Tryd.Builder_Extra_154 B b bs s w h hlen hBw
end Go.Proofs

namespace Go.Proofs.YtkpceagbjodbbaaDoor.Ext
open Go.RowKit Go.Proofs.YtkpceagbjodbbaaDoorW.PrintWords Go.Proofs.YtkpceagbjodbbaaDoorW.PrintLast Go.Proofs.YtkpceagbjodbbaaDoorW.PrintMore
open Go.Proofs.YtkpceagbjodbbaaDoor.PA
set_option linter.unusedVariables false
set_option linter.unusedSimpArgs false

def token_Unquote.l0 : Nat → ByteArray → Nat → List UInt8 → Option (ByteArray × Int × Int)
  | 0, _, _, _ => none
  | k + 1, s, i, acc =>
    if i < s.size then
      if bt s i = 10 then some (⟨#[]⟩, 106, 0)
      else if bt s i = 34 then (if i + 1 = s.size then some (⟨acc.toArray⟩, 0, 0) else some (⟨#[]⟩, 106, 0))
      else if bt s i = 92 then
        (token_escape.f k (s.extract (i + 1) s.size) 34).bind fun b =>
          if b.2.2.2 = true then
            if acc.length + b.2.1.size ≤ 140737488355328 ∧ 0 ≤ b.2.2.1 ∧ (i : Int) + 1 + b.2.2.1 ≤ s.size then token_Unquote.l0 k s (i + 1 + b.2.2.1.toNat) (acc ++ b.2.1.data.toList) else none
          else some (⟨#[]⟩, 108, i)
      else if acc.length + 1 ≤ 140737488355328 then token_Unquote.l0 k s (i + 1) (acc ++ [(bt s i).toNat.toUInt8]) else none
    else some (⟨#[]⟩, 106, 0)
def token_Unquote.f (k : Nat) (a0 : ByteArray) : Option (ByteArray × Int × Int) :=
  if a0.size ≤ 140737488355328 then
    if 1 < a0.size ∧ bt a0 0 = 96 then
      (strings_IndexByte.f (a0.extract 1 a0.size) 96).bind fun t => if t = (a0.size : Int) - 2 then some (dropR (a0.extract 1 (a0.size - 1)), 0, 0) else some (⟨#[]⟩, 106, 0)
    else if a0.size = 0 ∨ bt a0 0 ≠ 34 then some (⟨#[]⟩, 106, 0) else token_Unquote.l0 k a0 1 []
  else none
theorem token_Unquote.mono_l : ∀ k, (∀ y0 y1 y2, LeO (token_Unquote.l0 k y0 y1 y2) (token_Unquote.l0 (k + 1) y0 y1 y2))
  | 0 => fun _ _ _ r h => by simp [token_Unquote.l0] at h
  | k + 1 => by
    have ih0 := token_Unquote.mono_l k
    intro y0 y1 y2
    unfold token_Unquote.l0
    repeat' first
      | (with_reducible exact ih0 _ _ _)
      | (with_reducible exact token_escape.mono _ _ _)
      | (with_reducible exact LeO.refl _)
      | (with_reducible refine LeO.ite ?_ ?_)
      | (with_reducible refine LeO.bind ?_ (fun _ => ?_))
theorem token_Unquote.mono : ∀ a0 k, LeO (token_Unquote.f k a0) (token_Unquote.f (k + 1) a0) := by
  intro a0 k
  unfold token_Unquote.f
  repeat' first
    | (with_reducible exact token_Unquote.mono_l k _ _ _)
    | (with_reducible exact LeO.refl _)
    | (with_reducible refine LeO.ite ?_ ?_)
    | (with_reducible refine LeO.bind ?_ (fun _ => ?_))

end Go.Proofs.YtkpceagbjodbbaaDoor.Ext
