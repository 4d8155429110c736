/- Words of the kit's print that this claim uses, the others left out. Conditions: each theorem's own. -/
import Derived.Test.YtldfljlklfhjkaaVTab
/-! ### 56. Four, five, six operations that may come up next, in any order -/
namespace Go.Proofs.YtldfljlklfhjkaaW.PrintLast
section
variable {P : Program} {ops : Array Oper} {Q : Exit → Act → World → Prop} {md : Region.Mode} {S : World → Prop} {ds : List Nat} {T : Bool × List (List Nat × List Nat)}
end
end Go.Proofs.YtldfljlklfhjkaaW.PrintLast
