/- The smaller of two whole numbers, a word of the kit's print. Conditions: none. -/
import Derived.Test.YtldfljlklfhjkaaVMore
namespace Go.Proofs.YtldfljlklfhjkaaW.PrintMore
/-- The smaller of two whole numbers, as Go's min tells it. -/
def mn (a b : Int) : Int := if b < a then b else a
end Go.Proofs.YtldfljlklfhjkaaW.PrintMore
