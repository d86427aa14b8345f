/- Words that the kit's print laid for this seat, cut down by a program of this session (wip/prunew.py) to what is used. -/
import Derived.Test.YtkpceagbjodbbaaDoorWTab
namespace Go.Proofs.YtkpceagbjodbbaaDoorW.PrintLast
end Go.Proofs.YtkpceagbjodbbaaDoorW.PrintLast
