/- The pure statement of TokenDigits. Own work. -/
import Derived.Test.YtkpceagbjodbbaaDoorPB1
import Derived.Test.YtkpceagbjodbbaaDoorPure3
import Derived.KernelRfl
namespace Go.Proofs.YtkpceagbjodbbaaDoor.Pure
open Go.RowKit Go.Proofs.YtkpceagbjodbbaaDoorW.PrintWords Go.Proofs.YtkpceagbjodbbaaDoor.PA Go.Proofs.YtkpceagbjodbbaaDoor.PB Go.Proofs.YtkpceagbjodbbaaDoor.Ext
theorem TokenDigits : scholiastlaw02_TokenDigits.Pure := by
  intro a0 _
  by_cases hb : (a0.size : Int) > 4096
  · refine ⟨0, ?_⟩
    unfold scholiastlaw02_TokenDigits.f
    rw [if_pos hb]
  have hs : Ev (fun k => scholiastlaw02_shown.f k) true := Ev.of (fun k => scholiastlaw02_shown.mono k) (k := 60) (by kernel_rfl)
  have h : Ev (fun k => scholiastlaw02_TokenDigits.f k a0) true := by
    unfold scholiastlaw02_TokenDigits.f
    simp only [if_neg hb]
    refine Ev.bind hs ?_
    simp only [if_true]
    refine Ev.bind (digits_is a0 (by omega)) ?_
    refine Ev.bind (ref_digits_is a0 (by omega)) ?_
    simp only [if_true, beq_self_eq_true]
    exact Ev.now _
  exact h.rounds
end Go.Proofs.YtkpceagbjodbbaaDoor.Pure
