/- Words of the kit's print that this claim uses, the others left out. Conditions: each theorem's own. -/
import Derived.Test.YtldfljlklfhjkaaVInv
import Derived.Test.YtldfljlklfhjkaaVFootNe
namespace Go.Proofs.YtldfljlklfhjkaaW.PrintWords
open Go.RowKit
end Go.Proofs.YtldfljlklfhjkaaW.PrintWords
namespace Go.Proofs.YtldfljlklfhjkaaW.PrintLast
section
variable {ops : Array Oper} {a : Act} {o og : Oper} {g : Nat} {t : Tmp} {u : Bool}
end
end Go.Proofs.YtldfljlklfhjkaaW.PrintLast
