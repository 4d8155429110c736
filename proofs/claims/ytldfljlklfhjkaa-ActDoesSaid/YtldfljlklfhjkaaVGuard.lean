/- Words of the kit's print that this claim uses, the others left out. Conditions: each theorem's own. -/
import Derived.Test.YtldfljlklfhjkaaVWords
/-! ### 58. A guarded operation whose guard is known to want it: the same goal without the guard -/
namespace Go.Proofs.YtldfljlklfhjkaaW.PrintWords
open Go.RowKit
section
variable {P : Program} {ops : Array Oper} {rest : List Oper} {o : Oper} {a : Act} {Q : Exit → Act → World → Prop} {W : World}
end
end Go.Proofs.YtldfljlklfhjkaaW.PrintWords
