/- The pure statement of TokenWords. Own work. -/
import Derived.Test.YtkpceagbjodbbaaDoorPB1
import Derived.Test.YtkpceagbjodbbaaDoorPure1
namespace Go.Proofs.YtkpceagbjodbbaaDoor.Pure
open Go.RowKit Go.Proofs.YtkpceagbjodbbaaDoorW.PrintWords Go.Proofs.YtkpceagbjodbbaaDoor.PA Go.Proofs.YtkpceagbjodbbaaDoor.PB Go.Proofs.YtkpceagbjodbbaaDoor.Ext
theorem shown_is : scholiastlaw02_shown.f 60 = some true := by kernel_rfl
theorem shown_ev : Ev (fun k => scholiastlaw02_shown.f k) true := Ev.of (fun k => scholiastlaw02_shown.mono k) shown_is
theorem TokenWords : scholiastlaw02_TokenWords.Pure := by
  intro a0 _
  have h : Ev (fun k => scholiastlaw02_TokenWords.f k a0) true := by
    refine Ev.bind shown_ev ?_
    simp only [if_true]
    refine Ev.bind (operator_is a0) ?_
    refine Ev.bind (ref_operator_is a0) ?_
    simp only [if_true]
    refine Ev.bind (keyword_is a0) ?_
    refine Ev.bind (ref_keyword_is a0) ?_
    simp only [beq_self_eq_true]
    exact Ev.now _
  exact h.rounds
end Go.Proofs.YtkpceagbjodbbaaDoor.Pure
