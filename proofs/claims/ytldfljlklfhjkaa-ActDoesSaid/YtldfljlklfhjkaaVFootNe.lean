/- Words of the kit's print that this claim uses, the others left out. Conditions: each theorem's own. -/
import Derived.Test.YtldfljlklfhjkaaVN
/-! ### 52. A row that stays read whatever happens to a block (a set of blocks) doesn't lie there -/
namespace Go.Proofs.YtldfljlklfhjkaaW.PrintWords
open Go.RowKit
namespace Kd
section
variable {α : Type} {d : Kd α} {W : World} {g n : Nat} {S ok : Nat → Prop} {A : Option Addr} {ad : Addr} {xs : List α}
end
end Kd
end Go.Proofs.YtldfljlklfhjkaaW.PrintWords
