/- Words that the kit's print laid for this seat, cut down by a program of this session (wip/prunew.py) to what is used. -/
import Derived.Test.YtkpceagbjodbbaaDoorWWords
import Derived.Test.YtkpceagbjodbbaaDoorWLast
namespace Go.Proofs.YtkpceagbjodbbaaDoorW.PrintWords
open Go.RowKit
namespace Kd
end Kd
end Go.Proofs.YtkpceagbjodbbaaDoorW.PrintWords
