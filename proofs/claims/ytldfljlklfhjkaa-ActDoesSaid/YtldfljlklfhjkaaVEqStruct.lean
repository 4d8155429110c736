/- Words of the kit's print that this claim uses, the others left out. Conditions: each theorem's own. -/
import Derived.Test.YtldfljlklfhjkaaVWords
import Derived.Laws.StructEq
/-! ### 53. '==' of structs as_ one Bool -/
namespace Go.Proofs.YtldfljlklfhjkaaW.PrintWords
open Go.RowKit
section
variable {P : Program} {d : Nat} {xs ys : Array Value} {f : Field} {fs : List Field} {a b : Value} {r s : Bool} {w : World}
end
end Go.Proofs.YtldfljlklfhjkaaW.PrintWords
