/- Contracts that the evaluator tells: of each function its plain function (what its code comes to), and that each call answers so; written by a program of this session (wip/genev.py). Conditions: that the plain function answers. -/
import Derived.Test.YtldfljlklfhjkaaPFt1
namespace Go.Proofs.Ytldfljlklfhjkaa.PE
open Go.RowKit Go.Proofs.YtldfljlklfhjkaaW.PrintWords Go.Proofs.YtldfljlklfhjkaaW.PrintLast Go.Proofs.YtldfljlklfhjkaaW.PrintMore
set_option linter.unusedVariables false
set_option linter.unusedSimpArgs false
namespace Ev
noncomputable def ref1_Civil.t {γ : Type} (K : (Int × Int × Int) → Option γ) (ref1_floor : (Int × Int) → Option (Int)) (ref1_Days : (Int × Int × Int) → Option (Int)) (n0 : Int) : Option γ :=
  (ref1_floor (wrap64 (n0 + 719468), 146097)).bind fun t2 => if wrap64 (wrap64 ((wrap64 (wrap64 (5 * wrap64 (wrap64 (wrap64 (n0 + 719468) - wrap64 (146097 * t2)) - wrap64 (wrap64 (wrap64 (365 * wrap64 ((wrap64 (wrap64 (wrap64 (wrap64 (wrap64 (n0 + 719468) - wrap64 (146097 * t2)) - wrap64 ((wrap64 (wrap64 (n0 + 719468) - wrap64 (146097 * t2))).tdiv 1460)) + wrap64 ((wrap64 (wrap64 (n0 + 719468) - wrap64 (146097 * t2))).tdiv 36524)) - wrap64 ((wrap64 (wrap64 (n0 + 719468) - wrap64 (146097 * t2))).tdiv 146096))).tdiv 365)) + wrap64 ((wrap64 ((wrap64 (wrap64 (wrap64 (wrap64 (wrap64 (n0 + 719468) - wrap64 (146097 * t2)) - wrap64 ((wrap64 (wrap64 (n0 + 719468) - wrap64 (146097 * t2))).tdiv 1460)) + wrap64 ((wrap64 (wrap64 (n0 + 719468) - wrap64 (146097 * t2))).tdiv 36524)) - wrap64 ((wrap64 (wrap64 (n0 + 719468) - wrap64 (146097 * t2))).tdiv 146096))).tdiv 365)).tdiv 4)) - wrap64 ((wrap64 ((wrap64 (wrap64 (wrap64 (wrap64 (wrap64 (n0 + 719468) - wrap64 (146097 * t2)) - wrap64 ((wrap64 (wrap64 (n0 + 719468) - wrap64 (146097 * t2))).tdiv 1460)) + wrap64 ((wrap64 (wrap64 (n0 + 719468) - wrap64 (146097 * t2))).tdiv 36524)) - wrap64 ((wrap64 (wrap64 (n0 + 719468) - wrap64 (146097 * t2))).tdiv 146096))).tdiv 365)).tdiv 100)))) + 2)).tdiv 153) + 3) > 12 then (if wrap64 (wrap64 (wrap64 ((wrap64 (wrap64 (5 * wrap64 (wrap64 (wrap64 (n0 + 719468) - wrap64 (146097 * t2)) - wrap64 (wrap64 (wrap64 (365 * wrap64 ((wrap64 (wrap64 (wrap64 (wrap64 (wrap64 (n0 + 719468) - wrap64 (146097 * t2)) - wrap64 ((wrap64 (wrap64 (n0 + 719468) - wrap64 (146097 * t2))).tdiv 1460)) + wrap64 ((wrap64 (wrap64 (n0 + 719468) - wrap64 (146097 * t2))).tdiv 36524)) - wrap64 ((wrap64 (wrap64 (n0 + 719468) - wrap64 (146097 * t2))).tdiv 146096))).tdiv 365)) + wrap64 ((wrap64 ((wrap64 (wrap64 (wrap64 (wrap64 (wrap64 (n0 + 719468) - wrap64 (146097 * t2)) - wrap64 ((wrap64 (wrap64 (n0 + 719468) - wrap64 (146097 * t2))).tdiv 1460)) + wrap64 ((wrap64 (wrap64 (n0 + 719468) - wrap64 (146097 * t2))).tdiv 36524)) - wrap64 ((wrap64 (wrap64 (n0 + 719468) - wrap64 (146097 * t2))).tdiv 146096))).tdiv 365)).tdiv 4)) - wrap64 ((wrap64 ((wrap64 (wrap64 (wrap64 (wrap64 (wrap64 (n0 + 719468) - wrap64 (146097 * t2)) - wrap64 ((wrap64 (wrap64 (n0 + 719468) - wrap64 (146097 * t2))).tdiv 1460)) + wrap64 ((wrap64 (wrap64 (n0 + 719468) - wrap64 (146097 * t2))).tdiv 36524)) - wrap64 ((wrap64 (wrap64 (n0 + 719468) - wrap64 (146097 * t2))).tdiv 146096))).tdiv 365)).tdiv 100)))) + 2)).tdiv 153) + 3) - 12) ≤ 2 then K ((wrap64 (wrap64 (wrap64 ((wrap64 (wrap64 (wrap64 (wrap64 (wrap64 (n0 + 719468) - wrap64 (146097 * t2)) - wrap64 ((wrap64 (wrap64 (n0 + 719468) - wrap64 (146097 * t2))).tdiv 1460)) + wrap64 ((wrap64 (wrap64 (n0 + 719468) - wrap64 (146097 * t2))).tdiv 36524)) - wrap64 ((wrap64 (wrap64 (n0 + 719468) - wrap64 (146097 * t2))).tdiv 146096))).tdiv 365) + wrap64 (400 * t2)) + 1), wrap64 (wrap64 (wrap64 ((wrap64 (wrap64 (5 * wrap64 (wrap64 (wrap64 (n0 + 719468) - wrap64 (146097 * t2)) - wrap64 (wrap64 (wrap64 (365 * wrap64 ((wrap64 (wrap64 (wrap64 (wrap64 (wrap64 (n0 + 719468) - wrap64 (146097 * t2)) - wrap64 ((wrap64 (wrap64 (n0 + 719468) - wrap64 (146097 * t2))).tdiv 1460)) + wrap64 ((wrap64 (wrap64 (n0 + 719468) - wrap64 (146097 * t2))).tdiv 36524)) - wrap64 ((wrap64 (wrap64 (n0 + 719468) - wrap64 (146097 * t2))).tdiv 146096))).tdiv 365)) + wrap64 ((wrap64 ((wrap64 (wrap64 (wrap64 (wrap64 (wrap64 (n0 + 719468) - wrap64 (146097 * t2)) - wrap64 ((wrap64 (wrap64 (n0 + 719468) - wrap64 (146097 * t2))).tdiv 1460)) + wrap64 ((wrap64 (wrap64 (n0 + 719468) - wrap64 (146097 * t2))).tdiv 36524)) - wrap64 ((wrap64 (wrap64 (n0 + 719468) - wrap64 (146097 * t2))).tdiv 146096))).tdiv 365)).tdiv 4)) - wrap64 ((wrap64 ((wrap64 (wrap64 (wrap64 (wrap64 (wrap64 (n0 + 719468) - wrap64 (146097 * t2)) - wrap64 ((wrap64 (wrap64 (n0 + 719468) - wrap64 (146097 * t2))).tdiv 1460)) + wrap64 ((wrap64 (wrap64 (n0 + 719468) - wrap64 (146097 * t2))).tdiv 36524)) - wrap64 ((wrap64 (wrap64 (n0 + 719468) - wrap64 (146097 * t2))).tdiv 146096))).tdiv 365)).tdiv 100)))) + 2)).tdiv 153) + 3) - 12), wrap64 (wrap64 (wrap64 (wrap64 (wrap64 (n0 + 719468) - wrap64 (146097 * t2)) - wrap64 (wrap64 (wrap64 (365 * wrap64 ((wrap64 (wrap64 (wrap64 (wrap64 (wrap64 (n0 + 719468) - wrap64 (146097 * t2)) - wrap64 ((wrap64 (wrap64 (n0 + 719468) - wrap64 (146097 * t2))).tdiv 1460)) + wrap64 ((wrap64 (wrap64 (n0 + 719468) - wrap64 (146097 * t2))).tdiv 36524)) - wrap64 ((wrap64 (wrap64 (n0 + 719468) - wrap64 (146097 * t2))).tdiv 146096))).tdiv 365)) + wrap64 ((wrap64 ((wrap64 (wrap64 (wrap64 (wrap64 (wrap64 (n0 + 719468) - wrap64 (146097 * t2)) - wrap64 ((wrap64 (wrap64 (n0 + 719468) - wrap64 (146097 * t2))).tdiv 1460)) + wrap64 ((wrap64 (wrap64 (n0 + 719468) - wrap64 (146097 * t2))).tdiv 36524)) - wrap64 ((wrap64 (wrap64 (n0 + 719468) - wrap64 (146097 * t2))).tdiv 146096))).tdiv 365)).tdiv 4)) - wrap64 ((wrap64 ((wrap64 (wrap64 (wrap64 (wrap64 (wrap64 (n0 + 719468) - wrap64 (146097 * t2)) - wrap64 ((wrap64 (wrap64 (n0 + 719468) - wrap64 (146097 * t2))).tdiv 1460)) + wrap64 ((wrap64 (wrap64 (n0 + 719468) - wrap64 (146097 * t2))).tdiv 36524)) - wrap64 ((wrap64 (wrap64 (n0 + 719468) - wrap64 (146097 * t2))).tdiv 146096))).tdiv 365)).tdiv 100))) - wrap64 ((wrap64 (wrap64 (153 * wrap64 ((wrap64 (wrap64 (5 * wrap64 (wrap64 (wrap64 (n0 + 719468) - wrap64 (146097 * t2)) - wrap64 (wrap64 (wrap64 (365 * wrap64 ((wrap64 (wrap64 (wrap64 (wrap64 (wrap64 (n0 + 719468) - wrap64 (146097 * t2)) - wrap64 ((wrap64 (wrap64 (n0 + 719468) - wrap64 (146097 * t2))).tdiv 1460)) + wrap64 ((wrap64 (wrap64 (n0 + 719468) - wrap64 (146097 * t2))).tdiv 36524)) - wrap64 ((wrap64 (wrap64 (n0 + 719468) - wrap64 (146097 * t2))).tdiv 146096))).tdiv 365)) + wrap64 ((wrap64 ((wrap64 (wrap64 (wrap64 (wrap64 (wrap64 (n0 + 719468) - wrap64 (146097 * t2)) - wrap64 ((wrap64 (wrap64 (n0 + 719468) - wrap64 (146097 * t2))).tdiv 1460)) + wrap64 ((wrap64 (wrap64 (n0 + 719468) - wrap64 (146097 * t2))).tdiv 36524)) - wrap64 ((wrap64 (wrap64 (n0 + 719468) - wrap64 (146097 * t2))).tdiv 146096))).tdiv 365)).tdiv 4)) - wrap64 ((wrap64 ((wrap64 (wrap64 (wrap64 (wrap64 (wrap64 (n0 + 719468) - wrap64 (146097 * t2)) - wrap64 ((wrap64 (wrap64 (n0 + 719468) - wrap64 (146097 * t2))).tdiv 1460)) + wrap64 ((wrap64 (wrap64 (n0 + 719468) - wrap64 (146097 * t2))).tdiv 36524)) - wrap64 ((wrap64 (wrap64 (n0 + 719468) - wrap64 (146097 * t2))).tdiv 146096))).tdiv 365)).tdiv 100)))) + 2)).tdiv 153)) + 2)).tdiv 5)) + 1)))
    else K ((wrap64 (wrap64 ((wrap64 (wrap64 (wrap64 (wrap64 (wrap64 (n0 + 719468) - wrap64 (146097 * t2)) - wrap64 ((wrap64 (wrap64 (n0 + 719468) - wrap64 (146097 * t2))).tdiv 1460)) + wrap64 ((wrap64 (wrap64 (n0 + 719468) - wrap64 (146097 * t2))).tdiv 36524)) - wrap64 ((wrap64 (wrap64 (n0 + 719468) - wrap64 (146097 * t2))).tdiv 146096))).tdiv 365) + wrap64 (400 * t2)), wrap64 (wrap64 (wrap64 ((wrap64 (wrap64 (5 * wrap64 (wrap64 (wrap64 (n0 + 719468) - wrap64 (146097 * t2)) - wrap64 (wrap64 (wrap64 (365 * wrap64 ((wrap64 (wrap64 (wrap64 (wrap64 (wrap64 (n0 + 719468) - wrap64 (146097 * t2)) - wrap64 ((wrap64 (wrap64 (n0 + 719468) - wrap64 (146097 * t2))).tdiv 1460)) + wrap64 ((wrap64 (wrap64 (n0 + 719468) - wrap64 (146097 * t2))).tdiv 36524)) - wrap64 ((wrap64 (wrap64 (n0 + 719468) - wrap64 (146097 * t2))).tdiv 146096))).tdiv 365)) + wrap64 ((wrap64 ((wrap64 (wrap64 (wrap64 (wrap64 (wrap64 (n0 + 719468) - wrap64 (146097 * t2)) - wrap64 ((wrap64 (wrap64 (n0 + 719468) - wrap64 (146097 * t2))).tdiv 1460)) + wrap64 ((wrap64 (wrap64 (n0 + 719468) - wrap64 (146097 * t2))).tdiv 36524)) - wrap64 ((wrap64 (wrap64 (n0 + 719468) - wrap64 (146097 * t2))).tdiv 146096))).tdiv 365)).tdiv 4)) - wrap64 ((wrap64 ((wrap64 (wrap64 (wrap64 (wrap64 (wrap64 (n0 + 719468) - wrap64 (146097 * t2)) - wrap64 ((wrap64 (wrap64 (n0 + 719468) - wrap64 (146097 * t2))).tdiv 1460)) + wrap64 ((wrap64 (wrap64 (n0 + 719468) - wrap64 (146097 * t2))).tdiv 36524)) - wrap64 ((wrap64 (wrap64 (n0 + 719468) - wrap64 (146097 * t2))).tdiv 146096))).tdiv 365)).tdiv 100)))) + 2)).tdiv 153) + 3) - 12), wrap64 (wrap64 (wrap64 (wrap64 (wrap64 (n0 + 719468) - wrap64 (146097 * t2)) - wrap64 (wrap64 (wrap64 (365 * wrap64 ((wrap64 (wrap64 (wrap64 (wrap64 (wrap64 (n0 + 719468) - wrap64 (146097 * t2)) - wrap64 ((wrap64 (wrap64 (n0 + 719468) - wrap64 (146097 * t2))).tdiv 1460)) + wrap64 ((wrap64 (wrap64 (n0 + 719468) - wrap64 (146097 * t2))).tdiv 36524)) - wrap64 ((wrap64 (wrap64 (n0 + 719468) - wrap64 (146097 * t2))).tdiv 146096))).tdiv 365)) + wrap64 ((wrap64 ((wrap64 (wrap64 (wrap64 (wrap64 (wrap64 (n0 + 719468) - wrap64 (146097 * t2)) - wrap64 ((wrap64 (wrap64 (n0 + 719468) - wrap64 (146097 * t2))).tdiv 1460)) + wrap64 ((wrap64 (wrap64 (n0 + 719468) - wrap64 (146097 * t2))).tdiv 36524)) - wrap64 ((wrap64 (wrap64 (n0 + 719468) - wrap64 (146097 * t2))).tdiv 146096))).tdiv 365)).tdiv 4)) - wrap64 ((wrap64 ((wrap64 (wrap64 (wrap64 (wrap64 (wrap64 (n0 + 719468) - wrap64 (146097 * t2)) - wrap64 ((wrap64 (wrap64 (n0 + 719468) - wrap64 (146097 * t2))).tdiv 1460)) + wrap64 ((wrap64 (wrap64 (n0 + 719468) - wrap64 (146097 * t2))).tdiv 36524)) - wrap64 ((wrap64 (wrap64 (n0 + 719468) - wrap64 (146097 * t2))).tdiv 146096))).tdiv 365)).tdiv 100))) - wrap64 ((wrap64 (wrap64 (153 * wrap64 ((wrap64 (wrap64 (5 * wrap64 (wrap64 (wrap64 (n0 + 719468) - wrap64 (146097 * t2)) - wrap64 (wrap64 (wrap64 (365 * wrap64 ((wrap64 (wrap64 (wrap64 (wrap64 (wrap64 (n0 + 719468) - wrap64 (146097 * t2)) - wrap64 ((wrap64 (wrap64 (n0 + 719468) - wrap64 (146097 * t2))).tdiv 1460)) + wrap64 ((wrap64 (wrap64 (n0 + 719468) - wrap64 (146097 * t2))).tdiv 36524)) - wrap64 ((wrap64 (wrap64 (n0 + 719468) - wrap64 (146097 * t2))).tdiv 146096))).tdiv 365)) + wrap64 ((wrap64 ((wrap64 (wrap64 (wrap64 (wrap64 (wrap64 (n0 + 719468) - wrap64 (146097 * t2)) - wrap64 ((wrap64 (wrap64 (n0 + 719468) - wrap64 (146097 * t2))).tdiv 1460)) + wrap64 ((wrap64 (wrap64 (n0 + 719468) - wrap64 (146097 * t2))).tdiv 36524)) - wrap64 ((wrap64 (wrap64 (n0 + 719468) - wrap64 (146097 * t2))).tdiv 146096))).tdiv 365)).tdiv 4)) - wrap64 ((wrap64 ((wrap64 (wrap64 (wrap64 (wrap64 (wrap64 (n0 + 719468) - wrap64 (146097 * t2)) - wrap64 ((wrap64 (wrap64 (n0 + 719468) - wrap64 (146097 * t2))).tdiv 1460)) + wrap64 ((wrap64 (wrap64 (n0 + 719468) - wrap64 (146097 * t2))).tdiv 36524)) - wrap64 ((wrap64 (wrap64 (n0 + 719468) - wrap64 (146097 * t2))).tdiv 146096))).tdiv 365)).tdiv 100)))) + 2)).tdiv 153)) + 2)).tdiv 5)) + 1))))
   else if wrap64 (wrap64 ((wrap64 (wrap64 (5 * wrap64 (wrap64 (wrap64 (n0 + 719468) - wrap64 (146097 * t2)) - wrap64 (wrap64 (wrap64 (365 * wrap64 ((wrap64 (wrap64 (wrap64 (wrap64 (wrap64 (n0 + 719468) - wrap64 (146097 * t2)) - wrap64 ((wrap64 (wrap64 (n0 + 719468) - wrap64 (146097 * t2))).tdiv 1460)) + wrap64 ((wrap64 (wrap64 (n0 + 719468) - wrap64 (146097 * t2))).tdiv 36524)) - wrap64 ((wrap64 (wrap64 (n0 + 719468) - wrap64 (146097 * t2))).tdiv 146096))).tdiv 365)) + wrap64 ((wrap64 ((wrap64 (wrap64 (wrap64 (wrap64 (wrap64 (n0 + 719468) - wrap64 (146097 * t2)) - wrap64 ((wrap64 (wrap64 (n0 + 719468) - wrap64 (146097 * t2))).tdiv 1460)) + wrap64 ((wrap64 (wrap64 (n0 + 719468) - wrap64 (146097 * t2))).tdiv 36524)) - wrap64 ((wrap64 (wrap64 (n0 + 719468) - wrap64 (146097 * t2))).tdiv 146096))).tdiv 365)).tdiv 4)) - wrap64 ((wrap64 ((wrap64 (wrap64 (wrap64 (wrap64 (wrap64 (n0 + 719468) - wrap64 (146097 * t2)) - wrap64 ((wrap64 (wrap64 (n0 + 719468) - wrap64 (146097 * t2))).tdiv 1460)) + wrap64 ((wrap64 (wrap64 (n0 + 719468) - wrap64 (146097 * t2))).tdiv 36524)) - wrap64 ((wrap64 (wrap64 (n0 + 719468) - wrap64 (146097 * t2))).tdiv 146096))).tdiv 365)).tdiv 100)))) + 2)).tdiv 153) + 3) ≤ 2 then K ((wrap64 (wrap64 (wrap64 ((wrap64 (wrap64 (wrap64 (wrap64 (wrap64 (n0 + 719468) - wrap64 (146097 * t2)) - wrap64 ((wrap64 (wrap64 (n0 + 719468) - wrap64 (146097 * t2))).tdiv 1460)) + wrap64 ((wrap64 (wrap64 (n0 + 719468) - wrap64 (146097 * t2))).tdiv 36524)) - wrap64 ((wrap64 (wrap64 (n0 + 719468) - wrap64 (146097 * t2))).tdiv 146096))).tdiv 365) + wrap64 (400 * t2)) + 1), wrap64 (wrap64 ((wrap64 (wrap64 (5 * wrap64 (wrap64 (wrap64 (n0 + 719468) - wrap64 (146097 * t2)) - wrap64 (wrap64 (wrap64 (365 * wrap64 ((wrap64 (wrap64 (wrap64 (wrap64 (wrap64 (n0 + 719468) - wrap64 (146097 * t2)) - wrap64 ((wrap64 (wrap64 (n0 + 719468) - wrap64 (146097 * t2))).tdiv 1460)) + wrap64 ((wrap64 (wrap64 (n0 + 719468) - wrap64 (146097 * t2))).tdiv 36524)) - wrap64 ((wrap64 (wrap64 (n0 + 719468) - wrap64 (146097 * t2))).tdiv 146096))).tdiv 365)) + wrap64 ((wrap64 ((wrap64 (wrap64 (wrap64 (wrap64 (wrap64 (n0 + 719468) - wrap64 (146097 * t2)) - wrap64 ((wrap64 (wrap64 (n0 + 719468) - wrap64 (146097 * t2))).tdiv 1460)) + wrap64 ((wrap64 (wrap64 (n0 + 719468) - wrap64 (146097 * t2))).tdiv 36524)) - wrap64 ((wrap64 (wrap64 (n0 + 719468) - wrap64 (146097 * t2))).tdiv 146096))).tdiv 365)).tdiv 4)) - wrap64 ((wrap64 ((wrap64 (wrap64 (wrap64 (wrap64 (wrap64 (n0 + 719468) - wrap64 (146097 * t2)) - wrap64 ((wrap64 (wrap64 (n0 + 719468) - wrap64 (146097 * t2))).tdiv 1460)) + wrap64 ((wrap64 (wrap64 (n0 + 719468) - wrap64 (146097 * t2))).tdiv 36524)) - wrap64 ((wrap64 (wrap64 (n0 + 719468) - wrap64 (146097 * t2))).tdiv 146096))).tdiv 365)).tdiv 100)))) + 2)).tdiv 153) + 3), wrap64 (wrap64 (wrap64 (wrap64 (wrap64 (n0 + 719468) - wrap64 (146097 * t2)) - wrap64 (wrap64 (wrap64 (365 * wrap64 ((wrap64 (wrap64 (wrap64 (wrap64 (wrap64 (n0 + 719468) - wrap64 (146097 * t2)) - wrap64 ((wrap64 (wrap64 (n0 + 719468) - wrap64 (146097 * t2))).tdiv 1460)) + wrap64 ((wrap64 (wrap64 (n0 + 719468) - wrap64 (146097 * t2))).tdiv 36524)) - wrap64 ((wrap64 (wrap64 (n0 + 719468) - wrap64 (146097 * t2))).tdiv 146096))).tdiv 365)) + wrap64 ((wrap64 ((wrap64 (wrap64 (wrap64 (wrap64 (wrap64 (n0 + 719468) - wrap64 (146097 * t2)) - wrap64 ((wrap64 (wrap64 (n0 + 719468) - wrap64 (146097 * t2))).tdiv 1460)) + wrap64 ((wrap64 (wrap64 (n0 + 719468) - wrap64 (146097 * t2))).tdiv 36524)) - wrap64 ((wrap64 (wrap64 (n0 + 719468) - wrap64 (146097 * t2))).tdiv 146096))).tdiv 365)).tdiv 4)) - wrap64 ((wrap64 ((wrap64 (wrap64 (wrap64 (wrap64 (wrap64 (n0 + 719468) - wrap64 (146097 * t2)) - wrap64 ((wrap64 (wrap64 (n0 + 719468) - wrap64 (146097 * t2))).tdiv 1460)) + wrap64 ((wrap64 (wrap64 (n0 + 719468) - wrap64 (146097 * t2))).tdiv 36524)) - wrap64 ((wrap64 (wrap64 (n0 + 719468) - wrap64 (146097 * t2))).tdiv 146096))).tdiv 365)).tdiv 100))) - wrap64 ((wrap64 (wrap64 (153 * wrap64 ((wrap64 (wrap64 (5 * wrap64 (wrap64 (wrap64 (n0 + 719468) - wrap64 (146097 * t2)) - wrap64 (wrap64 (wrap64 (365 * wrap64 ((wrap64 (wrap64 (wrap64 (wrap64 (wrap64 (n0 + 719468) - wrap64 (146097 * t2)) - wrap64 ((wrap64 (wrap64 (n0 + 719468) - wrap64 (146097 * t2))).tdiv 1460)) + wrap64 ((wrap64 (wrap64 (n0 + 719468) - wrap64 (146097 * t2))).tdiv 36524)) - wrap64 ((wrap64 (wrap64 (n0 + 719468) - wrap64 (146097 * t2))).tdiv 146096))).tdiv 365)) + wrap64 ((wrap64 ((wrap64 (wrap64 (wrap64 (wrap64 (wrap64 (n0 + 719468) - wrap64 (146097 * t2)) - wrap64 ((wrap64 (wrap64 (n0 + 719468) - wrap64 (146097 * t2))).tdiv 1460)) + wrap64 ((wrap64 (wrap64 (n0 + 719468) - wrap64 (146097 * t2))).tdiv 36524)) - wrap64 ((wrap64 (wrap64 (n0 + 719468) - wrap64 (146097 * t2))).tdiv 146096))).tdiv 365)).tdiv 4)) - wrap64 ((wrap64 ((wrap64 (wrap64 (wrap64 (wrap64 (wrap64 (n0 + 719468) - wrap64 (146097 * t2)) - wrap64 ((wrap64 (wrap64 (n0 + 719468) - wrap64 (146097 * t2))).tdiv 1460)) + wrap64 ((wrap64 (wrap64 (n0 + 719468) - wrap64 (146097 * t2))).tdiv 36524)) - wrap64 ((wrap64 (wrap64 (n0 + 719468) - wrap64 (146097 * t2))).tdiv 146096))).tdiv 365)).tdiv 100)))) + 2)).tdiv 153)) + 2)).tdiv 5)) + 1)))
    else K ((wrap64 (wrap64 ((wrap64 (wrap64 (wrap64 (wrap64 (wrap64 (n0 + 719468) - wrap64 (146097 * t2)) - wrap64 ((wrap64 (wrap64 (n0 + 719468) - wrap64 (146097 * t2))).tdiv 1460)) + wrap64 ((wrap64 (wrap64 (n0 + 719468) - wrap64 (146097 * t2))).tdiv 36524)) - wrap64 ((wrap64 (wrap64 (n0 + 719468) - wrap64 (146097 * t2))).tdiv 146096))).tdiv 365) + wrap64 (400 * t2)), wrap64 (wrap64 ((wrap64 (wrap64 (5 * wrap64 (wrap64 (wrap64 (n0 + 719468) - wrap64 (146097 * t2)) - wrap64 (wrap64 (wrap64 (365 * wrap64 ((wrap64 (wrap64 (wrap64 (wrap64 (wrap64 (n0 + 719468) - wrap64 (146097 * t2)) - wrap64 ((wrap64 (wrap64 (n0 + 719468) - wrap64 (146097 * t2))).tdiv 1460)) + wrap64 ((wrap64 (wrap64 (n0 + 719468) - wrap64 (146097 * t2))).tdiv 36524)) - wrap64 ((wrap64 (wrap64 (n0 + 719468) - wrap64 (146097 * t2))).tdiv 146096))).tdiv 365)) + wrap64 ((wrap64 ((wrap64 (wrap64 (wrap64 (wrap64 (wrap64 (n0 + 719468) - wrap64 (146097 * t2)) - wrap64 ((wrap64 (wrap64 (n0 + 719468) - wrap64 (146097 * t2))).tdiv 1460)) + wrap64 ((wrap64 (wrap64 (n0 + 719468) - wrap64 (146097 * t2))).tdiv 36524)) - wrap64 ((wrap64 (wrap64 (n0 + 719468) - wrap64 (146097 * t2))).tdiv 146096))).tdiv 365)).tdiv 4)) - wrap64 ((wrap64 ((wrap64 (wrap64 (wrap64 (wrap64 (wrap64 (n0 + 719468) - wrap64 (146097 * t2)) - wrap64 ((wrap64 (wrap64 (n0 + 719468) - wrap64 (146097 * t2))).tdiv 1460)) + wrap64 ((wrap64 (wrap64 (n0 + 719468) - wrap64 (146097 * t2))).tdiv 36524)) - wrap64 ((wrap64 (wrap64 (n0 + 719468) - wrap64 (146097 * t2))).tdiv 146096))).tdiv 365)).tdiv 100)))) + 2)).tdiv 153) + 3), wrap64 (wrap64 (wrap64 (wrap64 (wrap64 (n0 + 719468) - wrap64 (146097 * t2)) - wrap64 (wrap64 (wrap64 (365 * wrap64 ((wrap64 (wrap64 (wrap64 (wrap64 (wrap64 (n0 + 719468) - wrap64 (146097 * t2)) - wrap64 ((wrap64 (wrap64 (n0 + 719468) - wrap64 (146097 * t2))).tdiv 1460)) + wrap64 ((wrap64 (wrap64 (n0 + 719468) - wrap64 (146097 * t2))).tdiv 36524)) - wrap64 ((wrap64 (wrap64 (n0 + 719468) - wrap64 (146097 * t2))).tdiv 146096))).tdiv 365)) + wrap64 ((wrap64 ((wrap64 (wrap64 (wrap64 (wrap64 (wrap64 (n0 + 719468) - wrap64 (146097 * t2)) - wrap64 ((wrap64 (wrap64 (n0 + 719468) - wrap64 (146097 * t2))).tdiv 1460)) + wrap64 ((wrap64 (wrap64 (n0 + 719468) - wrap64 (146097 * t2))).tdiv 36524)) - wrap64 ((wrap64 (wrap64 (n0 + 719468) - wrap64 (146097 * t2))).tdiv 146096))).tdiv 365)).tdiv 4)) - wrap64 ((wrap64 ((wrap64 (wrap64 (wrap64 (wrap64 (wrap64 (n0 + 719468) - wrap64 (146097 * t2)) - wrap64 ((wrap64 (wrap64 (n0 + 719468) - wrap64 (146097 * t2))).tdiv 1460)) + wrap64 ((wrap64 (wrap64 (n0 + 719468) - wrap64 (146097 * t2))).tdiv 36524)) - wrap64 ((wrap64 (wrap64 (n0 + 719468) - wrap64 (146097 * t2))).tdiv 146096))).tdiv 365)).tdiv 100))) - wrap64 ((wrap64 (wrap64 (153 * wrap64 ((wrap64 (wrap64 (5 * wrap64 (wrap64 (wrap64 (n0 + 719468) - wrap64 (146097 * t2)) - wrap64 (wrap64 (wrap64 (365 * wrap64 ((wrap64 (wrap64 (wrap64 (wrap64 (wrap64 (n0 + 719468) - wrap64 (146097 * t2)) - wrap64 ((wrap64 (wrap64 (n0 + 719468) - wrap64 (146097 * t2))).tdiv 1460)) + wrap64 ((wrap64 (wrap64 (n0 + 719468) - wrap64 (146097 * t2))).tdiv 36524)) - wrap64 ((wrap64 (wrap64 (n0 + 719468) - wrap64 (146097 * t2))).tdiv 146096))).tdiv 365)) + wrap64 ((wrap64 ((wrap64 (wrap64 (wrap64 (wrap64 (wrap64 (n0 + 719468) - wrap64 (146097 * t2)) - wrap64 ((wrap64 (wrap64 (n0 + 719468) - wrap64 (146097 * t2))).tdiv 1460)) + wrap64 ((wrap64 (wrap64 (n0 + 719468) - wrap64 (146097 * t2))).tdiv 36524)) - wrap64 ((wrap64 (wrap64 (n0 + 719468) - wrap64 (146097 * t2))).tdiv 146096))).tdiv 365)).tdiv 4)) - wrap64 ((wrap64 ((wrap64 (wrap64 (wrap64 (wrap64 (wrap64 (n0 + 719468) - wrap64 (146097 * t2)) - wrap64 ((wrap64 (wrap64 (n0 + 719468) - wrap64 (146097 * t2))).tdiv 1460)) + wrap64 ((wrap64 (wrap64 (n0 + 719468) - wrap64 (146097 * t2))).tdiv 36524)) - wrap64 ((wrap64 (wrap64 (n0 + 719468) - wrap64 (146097 * t2))).tdiv 146096))).tdiv 365)).tdiv 100)))) + 2)).tdiv 153)) + 2)).tdiv 5)) + 1)))
set_option maxRecDepth 100000 in
theorem ref1_Civil.nat {γ : Type} (g : (Int × Int × Int) → Option γ) (ref1_floor : (Int × Int) → Option (Int)) (ref1_Days : (Int × Int × Int) → Option (Int)) (n0 : Int) : (ref1_Civil.t some ref1_floor ref1_Days n0).bind g = ref1_Civil.t g ref1_floor ref1_Days n0 := by
  unfold ref1_Civil.t
  repeat' first | exact rfl | refine nat_i ?_ ?_ | refine nat_b ?_ ?_ | refine nat_o (fun _ => ?_) | refine nat_m ?_ (fun _ => ?_)
set_option maxRecDepth 100000 in
theorem ref1_Civil.run (ref1_floor : (Int × Int) → Option (Int)) (ref1_Days : (Int × Int × Int) → Option (Int)) (n0 : Int) : run ⟨[(53, sp (oc sI (o1 sI)) (o1 sI) ref1_floor), (31, sp (oc sI (oc sI (o1 sI))) (o1 sI) ref1_Days)], []⟩ 4 Try.f55 ((o1 sI).enc n0) = ref1_Civil.t (fun b => some (.ret (packD ((oc sI (oc sI (o1 sI))).enc b)))) ref1_floor ref1_Days n0 := by kernel_rfl
noncomputable def ref1_Civil.F (a : Int) : Option (Int × Int × Int) := ref1_Civil.t some interlocutorref1_floor.F interlocutorref1_Days.F a
theorem ref1_Civil.good : Good 55 (sp (o1 sI) (oc sI (oc sI (o1 sI))) ref1_Civil.F) := good_tree _ _ _ (Ok.cons interlocutorref1_floor.good (Ok.cons interlocutorref1_Days.good Ok.nil)) 4 (fn := Try.f55) (by kernel_rfl) (by kernel_rfl) (by kernel_rfl) fun a => (ref1_Civil.nat _ interlocutorref1_floor.F interlocutorref1_Days.F a).trans (ref1_Civil.run interlocutorref1_floor.F interlocutorref1_Days.F a).symm
noncomputable def ref1_Add.t {γ : Type} (K : (Int × Int × Int × Bool) → Option γ) (ref1_floor : (Int × Int) → Option (Int)) (ref1_Days : (Int × Int × Int) → Option (Int)) (ref1_Civil : (Int) → Option (Int × Int × Int)) (ref1_Length : (Int × Int) → Option (Int)) (n0 : Int) (n1 : Int) (n2 : Int) (n3 : Int) (n4 : Int) : Option γ :=
  if n3 < -1000000 then K ((0, 0, 0, false))
  else if n3 > 1000000 then K ((0, 0, 0, false))
   else if n4 < -10000000 then K ((0, 0, 0, false))
    else if n4 > 10000000 then K ((0, 0, 0, false))
     else (ref1_floor (wrap64 (wrap64 (wrap64 (wrap64 (12 * n0) + n1) - 1) + n3), 12)).bind fun t6 => (ref1_floor (wrap64 (wrap64 (wrap64 (wrap64 (12 * n0) + n1) - 1) + n3), 12)).bind fun t7 => (ref1_Length (t6, wrap64 (wrap64 (wrap64 (wrap64 (wrap64 (wrap64 (12 * n0) + n1) - 1) + n3) - wrap64 (12 * t7)) + 1))).bind fun t8 => if t8 < n2 then (ref1_Days (t6, wrap64 (wrap64 (wrap64 (wrap64 (wrap64 (wrap64 (12 * n0) + n1) - 1) + n3) - wrap64 (12 * t7)) + 1), t8)).bind fun t10 => (ref1_Civil (wrap64 (t10 + n4))).bind fun t11 => if t11.fst < 1 then K ((0, 0, 0, false))
            else if t11.fst > 9999 then K ((0, 0, 0, false))
             else K ((t11.fst, t11.snd.fst, t11.snd.snd, true))
         else (ref1_Days (t6, wrap64 (wrap64 (wrap64 (wrap64 (wrap64 (wrap64 (12 * n0) + n1) - 1) + n3) - wrap64 (12 * t7)) + 1), n2)).bind fun t10 => (ref1_Civil (wrap64 (t10 + n4))).bind fun t11 => if t11.fst < 1 then K ((0, 0, 0, false))
            else if t11.fst > 9999 then K ((0, 0, 0, false))
             else K ((t11.fst, t11.snd.fst, t11.snd.snd, true))
set_option maxRecDepth 100000 in
theorem ref1_Add.nat {γ : Type} (g : (Int × Int × Int × Bool) → Option γ) (ref1_floor : (Int × Int) → Option (Int)) (ref1_Days : (Int × Int × Int) → Option (Int)) (ref1_Civil : (Int) → Option (Int × Int × Int)) (ref1_Length : (Int × Int) → Option (Int)) (n0 : Int) (n1 : Int) (n2 : Int) (n3 : Int) (n4 : Int) : (ref1_Add.t some ref1_floor ref1_Days ref1_Civil ref1_Length n0 n1 n2 n3 n4).bind g = ref1_Add.t g ref1_floor ref1_Days ref1_Civil ref1_Length n0 n1 n2 n3 n4 := by
  unfold ref1_Add.t
  repeat' first | exact rfl | refine nat_i ?_ ?_ | refine nat_b ?_ ?_ | refine nat_o (fun _ => ?_) | refine nat_m ?_ (fun _ => ?_)
set_option maxRecDepth 100000 in
theorem ref1_Add.run (ref1_floor : (Int × Int) → Option (Int)) (ref1_Days : (Int × Int × Int) → Option (Int)) (ref1_Civil : (Int) → Option (Int × Int × Int)) (ref1_Length : (Int × Int) → Option (Int)) (n0 : Int) (n1 : Int) (n2 : Int) (n3 : Int) (n4 : Int) : run ⟨[(53, sp (oc sI (o1 sI)) (o1 sI) ref1_floor), (31, sp (oc sI (oc sI (o1 sI))) (o1 sI) ref1_Days), (55, sp (o1 sI) (oc sI (oc sI (o1 sI))) ref1_Civil), (54, sp (oc sI (o1 sI)) (o1 sI) ref1_Length)], []⟩ 0 Try.f30 ((oc sI (oc sI (oc sI (oc sI (o1 sI))))).enc (n0, n1, n2, n3, n4)) = ref1_Add.t (fun b => some (.ret (packD ((oc sI (oc sI (oc sI (o1 sB)))).enc b)))) ref1_floor ref1_Days ref1_Civil ref1_Length n0 n1 n2 n3 n4 := by kernel_rfl
noncomputable def ref1_Add.F (a : Int × Int × Int × Int × Int) : Option (Int × Int × Int × Bool) := ref1_Add.t some interlocutorref1_floor.F interlocutorref1_Days.F ref1_Civil.F interlocutorref1_Length.F a.1 a.2.1 a.2.2.1 a.2.2.2.1 a.2.2.2.2
theorem ref1_Add.good : Good 30 (sp (oc sI (oc sI (oc sI (oc sI (o1 sI))))) (oc sI (oc sI (oc sI (o1 sB)))) ref1_Add.F) := good_tree _ _ _ (Ok.cons interlocutorref1_floor.good (Ok.cons interlocutorref1_Days.good (Ok.cons ref1_Civil.good (Ok.cons interlocutorref1_Length.good Ok.nil)))) 0 (fn := Try.f30) (by kernel_rfl) (by kernel_rfl) (by kernel_rfl) fun a => (ref1_Add.nat _ interlocutorref1_floor.F interlocutorref1_Days.F ref1_Civil.F interlocutorref1_Length.F a.1 a.2.1 a.2.2.1 a.2.2.2.1 a.2.2.2.2).trans (ref1_Add.run interlocutorref1_floor.F interlocutorref1_Days.F ref1_Civil.F interlocutorref1_Length.F a.1 a.2.1 a.2.2.1 a.2.2.2.1 a.2.2.2.2).symm
noncomputable def ref1_Day.t {γ : Type} (K : (Bool) → Option γ) (ref1_Length : (Int × Int) → Option (Int)) (n0 : Int) (n1 : Int) (n2 : Int) : Option γ :=
  if n0 ≥ 1 then (if n0 ≤ 9999 then (if n1 ≥ 1 then (if n1 ≤ 12 then (if n2 ≥ 1 then (ref1_Length (n0, n1)).bind fun t7 => if n2 ≤ t7 then K true
        else K false
      else K false)
     else K false)
    else K false)
   else K false)
  else K false
set_option maxRecDepth 100000 in
theorem ref1_Day.nat {γ : Type} (g : (Bool) → Option γ) (ref1_Length : (Int × Int) → Option (Int)) (n0 : Int) (n1 : Int) (n2 : Int) : (ref1_Day.t some ref1_Length n0 n1 n2).bind g = ref1_Day.t g ref1_Length n0 n1 n2 := by
  unfold ref1_Day.t
  repeat' first | exact rfl | refine nat_i ?_ ?_ | refine nat_b ?_ ?_ | refine nat_o (fun _ => ?_) | refine nat_m ?_ (fun _ => ?_)
set_option maxRecDepth 100000 in
theorem ref1_Day.run (ref1_Length : (Int × Int) → Option (Int)) (n0 : Int) (n1 : Int) (n2 : Int) : run ⟨[(54, sp (oc sI (o1 sI)) (o1 sI) ref1_Length)], []⟩ 0 Try.f35 ((oc sI (oc sI (o1 sI))).enc (n0, n1, n2)) = ref1_Day.t (fun b => some (.ret (packD ((o1 sB).enc b)))) ref1_Length n0 n1 n2 := by kernel_rfl
noncomputable def ref1_Day.F (a : Int × Int × Int) : Option (Bool) := ref1_Day.t some interlocutorref1_Length.F a.1 a.2.1 a.2.2
theorem ref1_Day.good : Good 35 (sp (oc sI (oc sI (o1 sI))) (o1 sB) ref1_Day.F) := good_tree _ _ _ (Ok.cons interlocutorref1_Length.good Ok.nil) 0 (fn := Try.f35) (by kernel_rfl) (by kernel_rfl) (by kernel_rfl) fun a => (ref1_Day.nat _ interlocutorref1_Length.F a.1 a.2.1 a.2.2).trans (ref1_Day.run interlocutorref1_Length.F a.1 a.2.1 a.2.2).symm
noncomputable def ref2_Join.t {γ : Type} (K : (Int × Int × Bool) → Option γ) (ref2_Ten : (Int) → Option (Int)) (ref2_Norm : (Int × Int) → Option (Int × Int)) (n0 : Int) (n1 : Int) (n2 : Int) : Option γ :=
  if n0 < 0 then K ((0, 0, false))
  else if n1 < 0 then K ((0, 0, false))
   else if n2 < 0 then K ((0, 0, false))
    else if n2 > 18 then K ((0, 0, false))
     else (ref2_Ten n2).bind fun t6 => if n1 ≥ t6 then K ((0, 0, false))
       else if t6 = 0 then none
        else if n0 ≥ wrap64 (Int.tdiv 1000000000000000000 t6) then K ((0, 0, false))
         else (ref2_Norm (wrap64 (wrap64 (n0 * t6) + n1), n2)).bind fun t10 => K ((t10.fst, t10.snd, true))
set_option maxRecDepth 100000 in
theorem ref2_Join.nat {γ : Type} (g : (Int × Int × Bool) → Option γ) (ref2_Ten : (Int) → Option (Int)) (ref2_Norm : (Int × Int) → Option (Int × Int)) (n0 : Int) (n1 : Int) (n2 : Int) : (ref2_Join.t some ref2_Ten ref2_Norm n0 n1 n2).bind g = ref2_Join.t g ref2_Ten ref2_Norm n0 n1 n2 := by
  unfold ref2_Join.t
  repeat' first | exact rfl | refine nat_i ?_ ?_ | refine nat_b ?_ ?_ | refine nat_o (fun _ => ?_) | refine nat_m ?_ (fun _ => ?_)
set_option maxRecDepth 100000 in
theorem ref2_Join.run (ref2_Ten : (Int) → Option (Int)) (ref2_Norm : (Int × Int) → Option (Int × Int)) (n0 : Int) (n1 : Int) (n2 : Int) : run ⟨[(116, sp (o1 sI) (o1 sI) ref2_Ten), (89, sp (oc sI (o1 sI)) (oc sI (o1 sI)) ref2_Norm)], []⟩ 0 Try.f105 ((oc sI (oc sI (o1 sI))).enc (n0, n1, n2)) = ref2_Join.t (fun b => some (.ret (packD ((oc sI (oc sI (o1 sB))).enc b)))) ref2_Ten ref2_Norm n0 n1 n2 := by kernel_rfl
noncomputable def ref2_Join.F (a : Int × Int × Int) : Option (Int × Int × Bool) := ref2_Join.t some interlocutorref2_Ten.F interlocutorref2_Norm.F a.1 a.2.1 a.2.2
theorem ref2_Join.good : Good 105 (sp (oc sI (oc sI (o1 sI))) (oc sI (oc sI (o1 sB))) ref2_Join.F) := good_tree _ _ _ (Ok.cons interlocutorref2_Ten.good (Ok.cons interlocutorref2_Norm.good Ok.nil)) 0 (fn := Try.f105) (by kernel_rfl) (by kernel_rfl) (by kernel_rfl) fun a => (ref2_Join.nat _ interlocutorref2_Ten.F interlocutorref2_Norm.F a.1 a.2.1 a.2.2).trans (ref2_Join.run interlocutorref2_Ten.F interlocutorref2_Norm.F a.1 a.2.1 a.2.2).symm
noncomputable def ref2_Scaled.t {γ : Type} (K : (Int × Bool) → Option γ) (ref2_Norm : (Int × Int) → Option (Int × Int)) (ref2_Ten : (Int) → Option (Int)) (n0 : Int) (n1 : Int) (n2 : Int) : Option γ :=
  (ref2_Norm (n0, n1)).bind fun t2 => if t2.snd > n2 then K ((0, false))
   else (ref2_Ten (wrap64 (n2 - t2.snd))).bind fun t4 => if t2.fst < wrap64 (0 - t2.fst) then (if t4 = 0 then none
      else if wrap64 (0 - t2.fst) > wrap64 (Int.tdiv 999999999999999999 t4) then K ((0, false))
       else K ((wrap64 (t2.fst * t4), true)))
     else if t4 = 0 then none
      else if t2.fst > wrap64 (Int.tdiv 999999999999999999 t4) then K ((0, false))
       else K ((wrap64 (t2.fst * t4), true))
set_option maxRecDepth 100000 in
theorem ref2_Scaled.nat {γ : Type} (g : (Int × Bool) → Option γ) (ref2_Norm : (Int × Int) → Option (Int × Int)) (ref2_Ten : (Int) → Option (Int)) (n0 : Int) (n1 : Int) (n2 : Int) : (ref2_Scaled.t some ref2_Norm ref2_Ten n0 n1 n2).bind g = ref2_Scaled.t g ref2_Norm ref2_Ten n0 n1 n2 := by
  unfold ref2_Scaled.t
  repeat' first | exact rfl | refine nat_i ?_ ?_ | refine nat_b ?_ ?_ | refine nat_o (fun _ => ?_) | refine nat_m ?_ (fun _ => ?_)
set_option maxRecDepth 100000 in
theorem ref2_Scaled.run (ref2_Norm : (Int × Int) → Option (Int × Int)) (ref2_Ten : (Int) → Option (Int)) (n0 : Int) (n1 : Int) (n2 : Int) : run ⟨[(89, sp (oc sI (o1 sI)) (oc sI (o1 sI)) ref2_Norm), (116, sp (o1 sI) (o1 sI) ref2_Ten)], []⟩ 0 Try.f117 ((oc sI (oc sI (o1 sI))).enc (n0, n1, n2)) = ref2_Scaled.t (fun b => some (.ret (packD ((oc sI (o1 sB)).enc b)))) ref2_Norm ref2_Ten n0 n1 n2 := by kernel_rfl
noncomputable def ref2_Scaled.F (a : Int × Int × Int) : Option (Int × Bool) := ref2_Scaled.t some interlocutorref2_Norm.F interlocutorref2_Ten.F a.1 a.2.1 a.2.2
theorem ref2_Scaled.good : Good 117 (sp (oc sI (oc sI (o1 sI))) (oc sI (o1 sB)) ref2_Scaled.F) := good_tree _ _ _ (Ok.cons interlocutorref2_Norm.good (Ok.cons interlocutorref2_Ten.good Ok.nil)) 0 (fn := Try.f117) (by kernel_rfl) (by kernel_rfl) (by kernel_rfl) fun a => (ref2_Scaled.nat _ interlocutorref2_Norm.F interlocutorref2_Ten.F a.1 a.2.1 a.2.2).trans (ref2_Scaled.run interlocutorref2_Norm.F interlocutorref2_Ten.F a.1 a.2.1 a.2.2).symm
noncomputable def ref8_fields.t {γ : Type} (K : (Int) → Option γ)  (n0 : Int) : Option γ :=
  if n0 = 4 then K 3
  else if n0 = 5 then K 3
   else if n0 = 6 then K 6
    else if n0 = 10 then K 6
     else if n0 = 7 then K 2
      else if n0 = 8 then K 2
       else K 1
set_option maxRecDepth 100000 in
theorem ref8_fields.nat {γ : Type} (g : (Int) → Option γ)  (n0 : Int) : (ref8_fields.t some n0).bind g = ref8_fields.t g n0 := by
  unfold ref8_fields.t
  repeat' first | exact rfl | refine nat_i ?_ ?_ | refine nat_b ?_ ?_ | refine nat_o (fun _ => ?_) | refine nat_m ?_ (fun _ => ?_)
set_option maxRecDepth 100000 in
theorem ref8_fields.run  (n0 : Int) : run ⟨[], []⟩ 0 Try.f50 ((o1 sI).enc n0) = ref8_fields.t (fun b => some (.ret (packD ((o1 sI).enc b)))) n0 := by kernel_rfl
noncomputable def ref8_fields.F (a : Int) : Option (Int) := ref8_fields.t some a
theorem ref8_fields.good : Good 50 (sp (o1 sI) (o1 sI) ref8_fields.F) := good_tree _ _ _ Ok.nil 0 (fn := Try.f50) (by kernel_rfl) (by kernel_rfl) (by kernel_rfl) fun a => (ref8_fields.nat _ a).trans (ref8_fields.run a).symm
noncomputable def ref8_Right.t {γ : Type} (K : (Bool) → Option γ) (ref8_fields : (Int) → Option (Int)) (ref1_Day : (Int × Int × Int) → Option (Bool)) (ref1_Clock : (Int × Int × Int) → Option (Bool)) (ref1_Days : (Int × Int × Int) → Option (Int)) (ref2_Right : (Int × Int) → Option (Bool)) (v0 : S27) : Option γ :=
  if v0.f0 < 4 then K false
  else if v0.f0 > 10 then K false
   else (ref8_fields v0.f0).bind fun t4 => if (↑v0.f1.length : Int) = t4 then (if v0.f0 = 4 then (if 0 < (↑v0.f1.length : Int) then (if 1 < (↑v0.f1.length : Int) then (if 2 < (↑v0.f1.length : Int) then (ref1_Day (rd v0.f1 0, rd v0.f1 1, rd v0.f1 2)).bind fun t10 => bm (t10)
            (K true)
            (K false)
         else none)
        else none)
       else none)
      else if v0.f0 = 5 then (if 0 < (↑v0.f1.length : Int) then (if 1 < (↑v0.f1.length : Int) then (if 2 < (↑v0.f1.length : Int) then (ref1_Clock (rd v0.f1 0, rd v0.f1 1, rd v0.f1 2)).bind fun t11 => bm (t11)
             (K true)
             (K false)
          else none)
         else none)
        else none)
       else if v0.f0 = 6 then (if 0 < (↑v0.f1.length : Int) then (if 1 < (↑v0.f1.length : Int) then (if 2 < (↑v0.f1.length : Int) then (ref1_Day (rd v0.f1 0, rd v0.f1 1, rd v0.f1 2)).bind fun t12 => bm (t12)
              (if 3 < (↑v0.f1.length : Int) then (if 4 < (↑v0.f1.length : Int) then (if 5 < (↑v0.f1.length : Int) then (ref1_Clock (rd v0.f1 3, rd v0.f1 4, rd v0.f1 5)).bind fun t17 => bm (t17)
                   (K true)
                   (K false)
                else none)
               else none)
              else none)
              (K false)
           else none)
          else none)
         else none)
        else if v0.f0 = 7 then (if 0 < (↑v0.f1.length : Int) then (if 1 < (↑v0.f1.length : Int) then (ref2_Right (rd v0.f1 0, rd v0.f1 1)).bind fun t12 => bm (t12)
              (K true)
              (K false)
           else none)
          else none)
         else if v0.f0 = 8 then (if 0 < (↑v0.f1.length : Int) then (if rd v0.f1 0 ≥ 0 then (if 0 < (↑v0.f1.length : Int) then (if rd v0.f1 0 ≤ 1000000000 then (if 1 < (↑v0.f1.length : Int) then (if rd v0.f1 1 > -1000000000000000000 then (if 1 < (↑v0.f1.length : Int) then (if rd v0.f1 1 < 1000000000000000000 then K true
                  else K false)
                 else none)
                else K false)
               else none)
              else K false)
             else none)
            else K false)
           else none)
          else if v0.f0 = 9 then (if 0 < (↑v0.f1.length : Int) then (if rd v0.f1 0 ≥ 0 then (if 0 < (↑v0.f1.length : Int) then (if rd v0.f1 0 ≤ 9007199254740991 then K true
               else K false)
              else none)
             else K false)
            else none)
           else if 0 < (↑v0.f1.length : Int) then (if 1 < (↑v0.f1.length : Int) then (if 2 < (↑v0.f1.length : Int) then (ref1_Day (rd v0.f1 0, rd v0.f1 1, rd v0.f1 2)).bind fun t15 => bm (t15)
                 (if 3 < (↑v0.f1.length : Int) then (if 4 < (↑v0.f1.length : Int) then (if 5 < (↑v0.f1.length : Int) then (ref1_Day (rd v0.f1 3, rd v0.f1 4, rd v0.f1 5)).bind fun t20 => bm (t20)
                      (if 0 < (↑v0.f1.length : Int) then (if 1 < (↑v0.f1.length : Int) then (if 2 < (↑v0.f1.length : Int) then (if 3 < (↑v0.f1.length : Int) then (if 4 < (↑v0.f1.length : Int) then (if 5 < (↑v0.f1.length : Int) then (ref1_Days (rd v0.f1 0, rd v0.f1 1, rd v0.f1 2)).bind fun t28 => (ref1_Days (rd v0.f1 3, rd v0.f1 4, rd v0.f1 5)).bind fun t29 => if t28 ≤ t29 then K true
                              else K false
                           else none)
                          else none)
                         else none)
                        else none)
                       else none)
                      else none)
                      (K false)
                   else none)
                  else none)
                 else none)
                 (K false)
              else none)
             else none)
            else none)
     else K false
set_option maxRecDepth 100000 in
theorem ref8_Right.nat {γ : Type} (g : (Bool) → Option γ) (ref8_fields : (Int) → Option (Int)) (ref1_Day : (Int × Int × Int) → Option (Bool)) (ref1_Clock : (Int × Int × Int) → Option (Bool)) (ref1_Days : (Int × Int × Int) → Option (Int)) (ref2_Right : (Int × Int) → Option (Bool)) (v0 : S27) : (ref8_Right.t some ref8_fields ref1_Day ref1_Clock ref1_Days ref2_Right v0).bind g = ref8_Right.t g ref8_fields ref1_Day ref1_Clock ref1_Days ref2_Right v0 := by
  unfold ref8_Right.t
  repeat' first | exact rfl | refine nat_i ?_ ?_ | refine nat_b ?_ ?_ | refine nat_o (fun _ => ?_) | refine nat_m ?_ (fun _ => ?_)
set_option maxRecDepth 100000 in
theorem ref8_Right.run (ref8_fields : (Int) → Option (Int)) (ref1_Day : (Int × Int × Int) → Option (Bool)) (ref1_Clock : (Int × Int × Int) → Option (Bool)) (ref1_Days : (Int × Int × Int) → Option (Int)) (ref2_Right : (Int × Int) → Option (Bool)) (v0 : S27) : run ⟨[(50, sp (o1 sI) (o1 sI) ref8_fields), (35, sp (oc sI (oc sI (o1 sI))) (o1 sB) ref1_Day), (51, sp (oc sI (oc sI (o1 sI))) (o1 sB) ref1_Clock), (31, sp (oc sI (oc sI (o1 sI))) (o1 sI) ref1_Days), (52, sp (oc sI (o1 sI)) (o1 sB) ref2_Right)], []⟩ 0 Try.f29 ((o1 s1).enc v0) = ref8_Right.t (fun b => some (.ret (packD ((o1 sB).enc b)))) ref8_fields ref1_Day ref1_Clock ref1_Days ref2_Right v0 := by kernel_rfl
noncomputable def ref8_Right.F (a : S27) : Option (Bool) := ref8_Right.t some ref8_fields.F ref1_Day.F interlocutorref1_Clock.F interlocutorref1_Days.F interlocutorref2_Right.F a
theorem ref8_Right.good : Good 29 (sp (o1 s1) (o1 sB) ref8_Right.F) := good_tree _ _ _ (Ok.cons ref8_fields.good (Ok.cons ref1_Day.good (Ok.cons interlocutorref1_Clock.good (Ok.cons interlocutorref1_Days.good (Ok.cons interlocutorref2_Right.good Ok.nil))))) 0 (fn := Try.f29) (by kernel_rfl) (by kernel_rfl) (by kernel_rfl) fun a => (ref8_Right.nat _ ref8_fields.F ref1_Day.F interlocutorref1_Clock.F interlocutorref1_Days.F interlocutorref2_Right.F a).trans (ref8_Right.run ref8_fields.F ref1_Day.F interlocutorref1_Clock.F interlocutorref1_Days.F interlocutorref2_Right.F a).symm
noncomputable def ref8_number.t {γ : Type} (K : (Int × Bool) → Option γ)  (v0 : S27) : Option γ :=
  if v0.f0 = 1 then (if (↑v0.f1.length : Int) = 2 then (if 0 < (↑v0.f1.length : Int) then K ((rd v0.f1 0, true))
    else none)
   else K ((0, false)))
  else K ((0, false))
set_option maxRecDepth 100000 in
theorem ref8_number.nat {γ : Type} (g : (Int × Bool) → Option γ)  (v0 : S27) : (ref8_number.t some v0).bind g = ref8_number.t g v0 := by
  unfold ref8_number.t
  repeat' first | exact rfl | refine nat_i ?_ ?_ | refine nat_b ?_ ?_ | refine nat_o (fun _ => ?_) | refine nat_m ?_ (fun _ => ?_)
set_option maxRecDepth 100000 in
theorem ref8_number.run  (v0 : S27) : run ⟨[], []⟩ 0 Try.f80 ((o1 s1).enc v0) = ref8_number.t (fun b => some (.ret (packD ((oc sI (o1 sB)).enc b)))) v0 := by kernel_rfl
noncomputable def ref8_number.F (a : S27) : Option (Int × Bool) := ref8_number.t some a
theorem ref8_number.good : Good 80 (sp (o1 s1) (oc sI (o1 sB)) ref8_number.F) := good_tree _ _ _ Ok.nil 0 (fn := Try.f80) (by kernel_rfl) (by kernel_rfl) (by kernel_rfl) fun a => (ref8_number.nat _ a).trans (ref8_number.run a).symm
noncomputable def ref8_word.t {γ : Type} (K : (Int × Bool) → Option γ)  (v0 : S27) : Option γ :=
  if v0.f0 = 2 then (if (↑v0.f1.length : Int) = 1 then (if 0 < (↑v0.f1.length : Int) then K ((rd v0.f1 0, true))
    else none)
   else K ((0, false)))
  else K ((0, false))
set_option maxRecDepth 100000 in
theorem ref8_word.nat {γ : Type} (g : (Int × Bool) → Option γ)  (v0 : S27) : (ref8_word.t some v0).bind g = ref8_word.t g v0 := by
  unfold ref8_word.t
  repeat' first | exact rfl | refine nat_i ?_ ?_ | refine nat_b ?_ ?_ | refine nat_o (fun _ => ?_) | refine nat_m ?_ (fun _ => ?_)
set_option maxRecDepth 100000 in
theorem ref8_word.run  (v0 : S27) : run ⟨[], []⟩ 0 Try.f103 ((o1 s1).enc v0) = ref8_word.t (fun b => some (.ret (packD ((oc sI (o1 sB)).enc b)))) v0 := by kernel_rfl
noncomputable def ref8_word.F (a : S27) : Option (Int × Bool) := ref8_word.t some a
theorem ref8_word.good : Good 103 (sp (o1 s1) (oc sI (o1 sB)) ref8_word.F) := good_tree _ _ _ Ok.nil 0 (fn := Try.f103) (by kernel_rfl) (by kernel_rfl) (by kernel_rfl) fun a => (ref8_word.nat _ a).trans (ref8_word.run a).symm
noncomputable def ref8_count.t {γ : Type} (K : (Int × Bool) → Option γ) (ref8_number : (S27) → Option (Int × Bool)) (ref8_word : (S27) → Option (Int × Bool)) (v0 : S27) : Option γ :=
  (ref8_number { f0 := v0.f0, f1 := v0.f1 }).bind fun t2 => bm (t2.snd)
    (K ((t2.fst, true)))
    ((ref8_word { f0 := v0.f0, f1 := v0.f1 }).bind fun t4 => bm (t4.snd)
      (K ((t4.fst, true)))
      (K ((t4.fst, false))))
set_option maxRecDepth 100000 in
theorem ref8_count.nat {γ : Type} (g : (Int × Bool) → Option γ) (ref8_number : (S27) → Option (Int × Bool)) (ref8_word : (S27) → Option (Int × Bool)) (v0 : S27) : (ref8_count.t some ref8_number ref8_word v0).bind g = ref8_count.t g ref8_number ref8_word v0 := by
  unfold ref8_count.t
  repeat' first | exact rfl | refine nat_i ?_ ?_ | refine nat_b ?_ ?_ | refine nat_o (fun _ => ?_) | refine nat_m ?_ (fun _ => ?_)
set_option maxRecDepth 100000 in
theorem ref8_count.run (ref8_number : (S27) → Option (Int × Bool)) (ref8_word : (S27) → Option (Int × Bool)) (v0 : S27) : run ⟨[(80, sp (o1 s1) (oc sI (o1 sB)) ref8_number), (103, sp (o1 s1) (oc sI (o1 sB)) ref8_word)], []⟩ 0 Try.f102 ((o1 s1).enc v0) = ref8_count.t (fun b => some (.ret (packD ((oc sI (o1 sB)).enc b)))) ref8_number ref8_word v0 := by kernel_rfl
noncomputable def ref8_count.F (a : S27) : Option (Int × Bool) := ref8_count.t some ref8_number.F ref8_word.F a
theorem ref8_count.good : Good 102 (sp (o1 s1) (oc sI (o1 sB)) ref8_count.F) := good_tree _ _ _ (Ok.cons ref8_number.good (Ok.cons ref8_word.good Ok.nil)) 0 (fn := Try.f102) (by kernel_rfl) (by kernel_rfl) (by kernel_rfl) fun a => (ref8_count.nat _ ref8_number.F ref8_word.F a).trans (ref8_count.run ref8_number.F ref8_word.F a).symm
noncomputable def ref8_Year.t {γ : Type} (K : (Int × Bool) → Option γ)  (v0 : S27) (yy1 mo1 dd1 hh1 mi1 ss1 : Int) : Option γ :=
  if v0.f0 = 1 then (if (↑v0.f1.length : Int) = 2 then (if 0 < (↑v0.f1.length : Int) then (if 1 < (↑v0.f1.length : Int) then (if rd v0.f1 1 ≤ 2 then (if 0 < (↑v0.f1.length : Int) then (if wrap64 (wrap64 (yy1 - 50) + (wrap64 (wrap64 (rd v0.f1 0 - (wrap64 (yy1 - 50)).tmod 100) + 200)).tmod 100) < 1 then K ((0, false))
        else if wrap64 (wrap64 (yy1 - 50) + (wrap64 (wrap64 (rd v0.f1 0 - (wrap64 (yy1 - 50)).tmod 100) + 200)).tmod 100) > 9999 then K ((0, false))
         else K ((wrap64 (wrap64 (yy1 - 50) + (wrap64 (wrap64 (rd v0.f1 0 - (wrap64 (yy1 - 50)).tmod 100) + 200)).tmod 100), true)))
       else none)
      else if rd v0.f1 0 < 1 then K ((0, false))
       else if rd v0.f1 0 > 9999 then K ((0, false))
        else K ((rd v0.f1 0, true)))
     else none)
    else none)
   else K ((0, false)))
  else K ((0, false))
set_option maxRecDepth 100000 in
theorem ref8_Year.nat {γ : Type} (g : (Int × Bool) → Option γ)  (v0 : S27) (yy1 mo1 dd1 hh1 mi1 ss1 : Int) : (ref8_Year.t some v0 yy1 mo1 dd1 hh1 mi1 ss1).bind g = ref8_Year.t g v0 yy1 mo1 dd1 hh1 mi1 ss1 := by
  unfold ref8_Year.t
  repeat' first | exact rfl | refine nat_i ?_ ?_ | refine nat_b ?_ ?_ | refine nat_o (fun _ => ?_) | refine nat_m ?_ (fun _ => ?_)
set_option maxRecDepth 100000 in
theorem ref8_Year.run  (v0 : S27) (yy1 mo1 dd1 hh1 mi1 ss1 : Int) : run ⟨[], []⟩ 0 Try.f101 ((oc s1 (o1 sM)).enc (v0, (yy1, mo1, dd1, hh1, mi1, ss1))) = ref8_Year.t (fun b => some (.ret (packD ((oc sI (o1 sB)).enc b)))) v0 yy1 mo1 dd1 hh1 mi1 ss1 := by kernel_rfl
noncomputable def ref8_Year.F (a : S27 × Mom) : Option (Int × Bool) := ref8_Year.t some a.1 a.2.1 a.2.2.1 a.2.2.2.1 a.2.2.2.2.1 a.2.2.2.2.2.1 a.2.2.2.2.2.2
theorem ref8_Year.good : Good 101 (sp (oc s1 (o1 sM)) (oc sI (o1 sB)) ref8_Year.F) := good_tree _ _ _ Ok.nil 0 (fn := Try.f101) (by kernel_rfl) (by kernel_rfl) (by kernel_rfl) fun a => (ref8_Year.nat _ a.1 a.2.1 a.2.2.1 a.2.2.2.1 a.2.2.2.2.1 a.2.2.2.2.2.1 a.2.2.2.2.2.2).trans (ref8_Year.run a.1 a.2.1 a.2.2.1 a.2.2.2.1 a.2.2.2.2.1 a.2.2.2.2.2.1 a.2.2.2.2.2.2).symm
noncomputable def ref8_date.t {γ : Type} (K : (S27 × Bool) → Option γ) (ref8_Year : (S27 × Mom) → Option (Int × Bool)) (ref8_count : (S27) → Option (Int × Bool)) (ref8_number : (S27) → Option (Int × Bool)) (l0 : List S27) (yy1 mo1 dd1 hh1 mi1 ss1 : Int) : Option γ :=
  if (↑l0.length : Int) = 3 then (if 0 < (↑l0.length : Int) then (ref8_Year ({ f0 := (rd_T27 l0 0).f0, f1 := (rd_T27 l0 0).f1 }, yy1, mo1, dd1, hh1, mi1, ss1)).bind fun t4 => bm (t4.snd)
      (if 0 ≤ wrap64 ((↑l0.length : Int) - 2) then (if wrap64 ((↑l0.length : Int) - 2) < (↑l0.length : Int) then (ref8_count { f0 := (rd_T27 l0 (wrap64 ((↑l0.length : Int) - 2))).f0, f1 := (rd_T27 l0 (wrap64 ((↑l0.length : Int) - 2))).f1 }).bind fun t8 => bm (t8.snd)
          (if 0 ≤ wrap64 ((↑l0.length : Int) - 1) then (if wrap64 ((↑l0.length : Int) - 1) < (↑l0.length : Int) then (ref8_number { f0 := (rd_T27 l0 (wrap64 ((↑l0.length : Int) - 1))).f0, f1 := (rd_T27 l0 (wrap64 ((↑l0.length : Int) - 1))).f1 }).bind fun t12 => bm (t12.snd)
              (K ((⟨4, [t4.fst, t8.fst, t12.fst]⟩, true)))
              (K ((⟨4, [t4.fst, t8.fst, t12.fst]⟩, false)))
           else none)
          else none)
          (if 0 ≤ wrap64 ((↑l0.length : Int) - 1) then (if wrap64 ((↑l0.length : Int) - 1) < (↑l0.length : Int) then (ref8_number { f0 := (rd_T27 l0 (wrap64 ((↑l0.length : Int) - 1))).f0, f1 := (rd_T27 l0 (wrap64 ((↑l0.length : Int) - 1))).f1 }).bind fun t12 => bm (t12.snd)
              (K ((⟨4, [t4.fst, t8.fst, t12.fst]⟩, false)))
              (K ((⟨4, [t4.fst, t8.fst, t12.fst]⟩, false)))
           else none)
          else none)
       else none)
      else none)
      (if 0 ≤ wrap64 ((↑l0.length : Int) - 2) then (if wrap64 ((↑l0.length : Int) - 2) < (↑l0.length : Int) then (ref8_count { f0 := (rd_T27 l0 (wrap64 ((↑l0.length : Int) - 2))).f0, f1 := (rd_T27 l0 (wrap64 ((↑l0.length : Int) - 2))).f1 }).bind fun t8 => bm (t8.snd)
          (if 0 ≤ wrap64 ((↑l0.length : Int) - 1) then (if wrap64 ((↑l0.length : Int) - 1) < (↑l0.length : Int) then (ref8_number { f0 := (rd_T27 l0 (wrap64 ((↑l0.length : Int) - 1))).f0, f1 := (rd_T27 l0 (wrap64 ((↑l0.length : Int) - 1))).f1 }).bind fun t12 => bm (t12.snd)
              (K ((⟨4, [t4.fst, t8.fst, t12.fst]⟩, false)))
              (K ((⟨4, [t4.fst, t8.fst, t12.fst]⟩, false)))
           else none)
          else none)
          (if 0 ≤ wrap64 ((↑l0.length : Int) - 1) then (if wrap64 ((↑l0.length : Int) - 1) < (↑l0.length : Int) then (ref8_number { f0 := (rd_T27 l0 (wrap64 ((↑l0.length : Int) - 1))).f0, f1 := (rd_T27 l0 (wrap64 ((↑l0.length : Int) - 1))).f1 }).bind fun t12 => bm (t12.snd)
              (K ((⟨4, [t4.fst, t8.fst, t12.fst]⟩, false)))
              (K ((⟨4, [t4.fst, t8.fst, t12.fst]⟩, false)))
           else none)
          else none)
       else none)
      else none)
   else none)
  else if 0 ≤ wrap64 ((↑l0.length : Int) - 2) then (if wrap64 ((↑l0.length : Int) - 2) < (↑l0.length : Int) then (ref8_count { f0 := (rd_T27 l0 (wrap64 ((↑l0.length : Int) - 2))).f0, f1 := (rd_T27 l0 (wrap64 ((↑l0.length : Int) - 2))).f1 }).bind fun t5 => bm (t5.snd)
       (if 0 ≤ wrap64 ((↑l0.length : Int) - 1) then (if wrap64 ((↑l0.length : Int) - 1) < (↑l0.length : Int) then (ref8_number { f0 := (rd_T27 l0 (wrap64 ((↑l0.length : Int) - 1))).f0, f1 := (rd_T27 l0 (wrap64 ((↑l0.length : Int) - 1))).f1 }).bind fun t9 => bm (t9.snd)
           (K ((⟨4, [yy1, t5.fst, t9.fst]⟩, true)))
           (K ((⟨4, [yy1, t5.fst, t9.fst]⟩, false)))
        else none)
       else none)
       (if 0 ≤ wrap64 ((↑l0.length : Int) - 1) then (if wrap64 ((↑l0.length : Int) - 1) < (↑l0.length : Int) then (ref8_number { f0 := (rd_T27 l0 (wrap64 ((↑l0.length : Int) - 1))).f0, f1 := (rd_T27 l0 (wrap64 ((↑l0.length : Int) - 1))).f1 }).bind fun t9 => bm (t9.snd)
           (K ((⟨4, [yy1, t5.fst, t9.fst]⟩, false)))
           (K ((⟨4, [yy1, t5.fst, t9.fst]⟩, false)))
        else none)
       else none)
    else none)
   else none
set_option maxRecDepth 100000 in
theorem ref8_date.nat {γ : Type} (g : (S27 × Bool) → Option γ) (ref8_Year : (S27 × Mom) → Option (Int × Bool)) (ref8_count : (S27) → Option (Int × Bool)) (ref8_number : (S27) → Option (Int × Bool)) (l0 : List S27) (yy1 mo1 dd1 hh1 mi1 ss1 : Int) : (ref8_date.t some ref8_Year ref8_count ref8_number l0 yy1 mo1 dd1 hh1 mi1 ss1).bind g = ref8_date.t g ref8_Year ref8_count ref8_number l0 yy1 mo1 dd1 hh1 mi1 ss1 := by
  unfold ref8_date.t
  repeat' first | exact rfl | refine nat_i ?_ ?_ | refine nat_b ?_ ?_ | refine nat_o (fun _ => ?_) | refine nat_m ?_ (fun _ => ?_)
set_option maxRecDepth 100000 in
theorem ref8_date.run (ref8_Year : (S27 × Mom) → Option (Int × Bool)) (ref8_count : (S27) → Option (Int × Bool)) (ref8_number : (S27) → Option (Int × Bool)) (l0 : List S27) (yy1 mo1 dd1 hh1 mi1 ss1 : Int) : run ⟨[(101, sp (oc s1 (o1 sM)) (oc sI (o1 sB)) ref8_Year), (102, sp (o1 s1) (oc sI (o1 sB)) ref8_count), (80, sp (o1 s1) (oc sI (o1 sB)) ref8_number)], []⟩ 0 Try.f74 ((oc sV (o1 sM)).enc (l0, (yy1, mo1, dd1, hh1, mi1, ss1))) = ref8_date.t (fun b => some (.ret (packD ((oc s1 (o1 sB)).enc b)))) ref8_Year ref8_count ref8_number l0 yy1 mo1 dd1 hh1 mi1 ss1 := by kernel_rfl
noncomputable def ref8_date.F (a : List S27 × Mom) : Option (S27 × Bool) := ref8_date.t some ref8_Year.F ref8_count.F ref8_number.F a.1 a.2.1 a.2.2.1 a.2.2.2.1 a.2.2.2.2.1 a.2.2.2.2.2.1 a.2.2.2.2.2.2
theorem ref8_date.good : Good 74 (sp (oc sV (o1 sM)) (oc s1 (o1 sB)) ref8_date.F) := good_tree _ _ _ (Ok.cons ref8_Year.good (Ok.cons ref8_count.good (Ok.cons ref8_number.good Ok.nil))) 0 (fn := Try.f74) (by kernel_rfl) (by kernel_rfl) (by kernel_rfl) fun a => (ref8_date.nat _ ref8_Year.F ref8_count.F ref8_number.F a.1 a.2.1 a.2.2.1 a.2.2.2.1 a.2.2.2.2.1 a.2.2.2.2.2.1 a.2.2.2.2.2.2).trans (ref8_date.run ref8_Year.F ref8_count.F ref8_number.F a.1 a.2.1 a.2.2.1 a.2.2.2.1 a.2.2.2.2.1 a.2.2.2.2.2.1 a.2.2.2.2.2.2).symm
noncomputable def ref8_clock.t {γ : Type} (K : (S27 × Bool) → Option γ) (ref8_number : (S27) → Option (Int × Bool)) (l0 : List S27) : Option γ :=
  if 0 < (↑l0.length : Int) then (if 0 < (↑l0.length : Int) then (ref8_number { f0 := (rd_T27 l0 0).f0, f1 := (rd_T27 l0 0).f1 }).bind fun t4 => bm (t4.snd)
      (if 1 < (↑l0.length : Int) then (if 1 < (↑l0.length : Int) then (ref8_number { f0 := (rd_T27 l0 1).f0, f1 := (rd_T27 l0 1).f1 }).bind fun t8 => bm (t8.snd)
          (if 2 < (↑l0.length : Int) then (if 2 < (↑l0.length : Int) then (ref8_number { f0 := (rd_T27 l0 2).f0, f1 := (rd_T27 l0 2).f1 }).bind fun t12 => bm (t12.snd)
              (K ((⟨5, [] ++ [t4.fst] ++ [t8.fst] ++ [t12.fst]⟩, true)))
              (K ((⟨5, [] ++ [t4.fst] ++ [t8.fst]⟩, false)))
           else none)
          else K ((⟨5, [] ++ [t4.fst] ++ [t8.fst] ++ [0]⟩, true)))
          (K ((⟨5, [] ++ [t4.fst]⟩, false)))
       else none)
      else if 2 < (↑l0.length : Int) then (if 2 < (↑l0.length : Int) then (ref8_number { f0 := (rd_T27 l0 2).f0, f1 := (rd_T27 l0 2).f1 }).bind fun t9 => bm (t9.snd)
           (K ((⟨5, [] ++ [t4.fst] ++ [0] ++ [t9.fst]⟩, true)))
           (K ((⟨5, [] ++ [t4.fst] ++ [0]⟩, false)))
        else none)
       else K ((⟨5, [] ++ [t4.fst] ++ [0] ++ [0]⟩, true)))
      (K ((⟨5, []⟩, false)))
   else none)
  else if 1 < (↑l0.length : Int) then (if 1 < (↑l0.length : Int) then (ref8_number { f0 := (rd_T27 l0 1).f0, f1 := (rd_T27 l0 1).f1 }).bind fun t5 => bm (t5.snd)
       (if 2 < (↑l0.length : Int) then (if 2 < (↑l0.length : Int) then (ref8_number { f0 := (rd_T27 l0 2).f0, f1 := (rd_T27 l0 2).f1 }).bind fun t9 => bm (t9.snd)
           (K ((⟨5, [] ++ [0] ++ [t5.fst] ++ [t9.fst]⟩, true)))
           (K ((⟨5, [] ++ [0] ++ [t5.fst]⟩, false)))
        else none)
       else K ((⟨5, [] ++ [0] ++ [t5.fst] ++ [0]⟩, true)))
       (K ((⟨5, [] ++ [0]⟩, false)))
    else none)
   else if 2 < (↑l0.length : Int) then (if 2 < (↑l0.length : Int) then (ref8_number { f0 := (rd_T27 l0 2).f0, f1 := (rd_T27 l0 2).f1 }).bind fun t6 => bm (t6.snd)
        (K ((⟨5, [] ++ [0] ++ [0] ++ [t6.fst]⟩, true)))
        (K ((⟨5, [] ++ [0] ++ [0]⟩, false)))
     else none)
    else K ((⟨5, [] ++ [0] ++ [0] ++ [0]⟩, true))
set_option maxRecDepth 100000 in
theorem ref8_clock.nat {γ : Type} (g : (S27 × Bool) → Option γ) (ref8_number : (S27) → Option (Int × Bool)) (l0 : List S27) : (ref8_clock.t some ref8_number l0).bind g = ref8_clock.t g ref8_number l0 := by
  unfold ref8_clock.t
  repeat' first | exact rfl | refine nat_i ?_ ?_ | refine nat_b ?_ ?_ | refine nat_o (fun _ => ?_) | refine nat_m ?_ (fun _ => ?_)
set_option maxRecDepth 100000 in
theorem ref8_clock.run (ref8_number : (S27) → Option (Int × Bool)) (l0 : List S27) : run ⟨[(80, sp (o1 s1) (oc sI (o1 sB)) ref8_number)], [32]⟩ 4 Try.f75 ((o1 sV).enc l0) = ref8_clock.t (fun b => some (.ret (packD ((oc s1 (o1 sB)).enc b)))) ref8_number l0 := by kernel_rfl
noncomputable def ref8_clock.F (a : List S27) : Option (S27 × Bool) := ref8_clock.t some ref8_number.F a
theorem ref8_clock.good : Good 75 (sp (o1 sV) (oc s1 (o1 sB)) ref8_clock.F) := good_tree _ _ _ (Ok.cons ref8_number.good Ok.nil) 4 (fn := Try.f75) (by kernel_rfl) (by kernel_rfl) (by kernel_rfl) fun a => (ref8_clock.nat _ ref8_number.F a).trans (ref8_clock.run ref8_number.F a).symm
noncomputable def ref8_halved.t {γ : Type} (K : (S27 × Bool) → Option γ) (ref8_number : (S27) → Option (Int × Bool)) (ref8_word : (S27) → Option (Int × Bool)) (l0 : List S27) : Option γ :=
  if 0 < (↑l0.length : Int) then (ref8_number { f0 := (rd_T27 l0 0).f0, f1 := (rd_T27 l0 0).f1 }).bind fun t3 => bm (t3.snd)
     (if (↑l0.length : Int) = 3 then (if 1 < (↑l0.length : Int) then (ref8_number { f0 := (rd_T27 l0 1).f0, f1 := (rd_T27 l0 1).f1 }).bind fun t7 => bm (t7.snd)
         (if 0 ≤ wrap64 ((↑l0.length : Int) - 1) then (if wrap64 ((↑l0.length : Int) - 1) < (↑l0.length : Int) then (ref8_word { f0 := (rd_T27 l0 (wrap64 ((↑l0.length : Int) - 1))).f0, f1 := (rd_T27 l0 (wrap64 ((↑l0.length : Int) - 1))).f1 }).bind fun t11 => bm (t11.snd)
             (if t3.fst < 1 then K ((⟨0, []⟩, false))
             else if t3.fst > 12 then K ((⟨0, []⟩, false))
              else if t11.fst < 0 then K ((⟨0, []⟩, false))
               else if t11.fst > 1 then K ((⟨0, []⟩, false))
                else K ((⟨5, [wrap64 (t3.fst.tmod 12 + wrap64 (12 * t11.fst)), t7.fst, 0]⟩, true)))
             (K ((⟨0, []⟩, false)))
          else none)
         else none)
         (if 0 ≤ wrap64 ((↑l0.length : Int) - 1) then (if wrap64 ((↑l0.length : Int) - 1) < (↑l0.length : Int) then (ref8_word { f0 := (rd_T27 l0 (wrap64 ((↑l0.length : Int) - 1))).f0, f1 := (rd_T27 l0 (wrap64 ((↑l0.length : Int) - 1))).f1 }).bind fun t11 => bm (t11.snd)
             (K ((⟨0, []⟩, false)))
             (K ((⟨0, []⟩, false)))
          else none)
         else none)
      else none)
     else if 0 ≤ wrap64 ((↑l0.length : Int) - 1) then (if wrap64 ((↑l0.length : Int) - 1) < (↑l0.length : Int) then (ref8_word { f0 := (rd_T27 l0 (wrap64 ((↑l0.length : Int) - 1))).f0, f1 := (rd_T27 l0 (wrap64 ((↑l0.length : Int) - 1))).f1 }).bind fun t8 => bm (t8.snd)
          (if t3.fst < 1 then K ((⟨0, []⟩, false))
          else if t3.fst > 12 then K ((⟨0, []⟩, false))
           else if t8.fst < 0 then K ((⟨0, []⟩, false))
            else if t8.fst > 1 then K ((⟨0, []⟩, false))
             else K ((⟨5, [wrap64 (t3.fst.tmod 12 + wrap64 (12 * t8.fst)), 0, 0]⟩, true)))
          (K ((⟨0, []⟩, false)))
       else none)
      else none)
     (if (↑l0.length : Int) = 3 then (if 1 < (↑l0.length : Int) then (ref8_number { f0 := (rd_T27 l0 1).f0, f1 := (rd_T27 l0 1).f1 }).bind fun t7 => bm (t7.snd)
         (if 0 ≤ wrap64 ((↑l0.length : Int) - 1) then (if wrap64 ((↑l0.length : Int) - 1) < (↑l0.length : Int) then (ref8_word { f0 := (rd_T27 l0 (wrap64 ((↑l0.length : Int) - 1))).f0, f1 := (rd_T27 l0 (wrap64 ((↑l0.length : Int) - 1))).f1 }).bind fun t11 => bm (t11.snd)
             (K ((⟨0, []⟩, false)))
             (K ((⟨0, []⟩, false)))
          else none)
         else none)
         (if 0 ≤ wrap64 ((↑l0.length : Int) - 1) then (if wrap64 ((↑l0.length : Int) - 1) < (↑l0.length : Int) then (ref8_word { f0 := (rd_T27 l0 (wrap64 ((↑l0.length : Int) - 1))).f0, f1 := (rd_T27 l0 (wrap64 ((↑l0.length : Int) - 1))).f1 }).bind fun t11 => bm (t11.snd)
             (K ((⟨0, []⟩, false)))
             (K ((⟨0, []⟩, false)))
          else none)
         else none)
      else none)
     else if 0 ≤ wrap64 ((↑l0.length : Int) - 1) then (if wrap64 ((↑l0.length : Int) - 1) < (↑l0.length : Int) then (ref8_word { f0 := (rd_T27 l0 (wrap64 ((↑l0.length : Int) - 1))).f0, f1 := (rd_T27 l0 (wrap64 ((↑l0.length : Int) - 1))).f1 }).bind fun t8 => bm (t8.snd)
          (K ((⟨0, []⟩, false)))
          (K ((⟨0, []⟩, false)))
       else none)
      else none)
  else none
set_option maxRecDepth 100000 in
theorem ref8_halved.nat {γ : Type} (g : (S27 × Bool) → Option γ) (ref8_number : (S27) → Option (Int × Bool)) (ref8_word : (S27) → Option (Int × Bool)) (l0 : List S27) : (ref8_halved.t some ref8_number ref8_word l0).bind g = ref8_halved.t g ref8_number ref8_word l0 := by
  unfold ref8_halved.t
  repeat' first | exact rfl | refine nat_i ?_ ?_ | refine nat_b ?_ ?_ | refine nat_o (fun _ => ?_) | refine nat_m ?_ (fun _ => ?_)
set_option maxRecDepth 100000 in
theorem ref8_halved.run (ref8_number : (S27) → Option (Int × Bool)) (ref8_word : (S27) → Option (Int × Bool)) (l0 : List S27) : run ⟨[(80, sp (o1 s1) (oc sI (o1 sB)) ref8_number), (103, sp (o1 s1) (oc sI (o1 sB)) ref8_word)], []⟩ 0 Try.f76 ((o1 sV).enc l0) = ref8_halved.t (fun b => some (.ret (packD ((oc s1 (o1 sB)).enc b)))) ref8_number ref8_word l0 := by kernel_rfl
noncomputable def ref8_halved.F (a : List S27) : Option (S27 × Bool) := ref8_halved.t some ref8_number.F ref8_word.F a
theorem ref8_halved.good : Good 76 (sp (o1 sV) (oc s1 (o1 sB)) ref8_halved.F) := good_tree _ _ _ (Ok.cons ref8_number.good (Ok.cons ref8_word.good Ok.nil)) 0 (fn := Try.f76) (by kernel_rfl) (by kernel_rfl) (by kernel_rfl) fun a => (ref8_halved.nat _ ref8_number.F ref8_word.F a).trans (ref8_halved.run ref8_number.F ref8_word.F a).symm
noncomputable def ref8_day.t {γ : Type} (K : (S27) → Option γ)  (n0 : Int) (n1 : Int) (n2 : Int) : Option γ :=
  K ⟨4, [n0, n1, n2]⟩
set_option maxRecDepth 100000 in
theorem ref8_day.nat {γ : Type} (g : (S27) → Option γ)  (n0 : Int) (n1 : Int) (n2 : Int) : (ref8_day.t some n0 n1 n2).bind g = ref8_day.t g n0 n1 n2 := by
  unfold ref8_day.t
  repeat' first | exact rfl | refine nat_i ?_ ?_ | refine nat_b ?_ ?_ | refine nat_o (fun _ => ?_) | refine nat_m ?_ (fun _ => ?_)
set_option maxRecDepth 100000 in
theorem ref8_day.run  (n0 : Int) (n1 : Int) (n2 : Int) : run ⟨[], []⟩ 0 Try.f104 ((oc sI (oc sI (o1 sI))).enc (n0, n1, n2)) = ref8_day.t (fun b => some (.ret (packD ((o1 s1).enc b)))) n0 n1 n2 := by kernel_rfl
noncomputable def ref8_day.F (a : Int × Int × Int) : Option (S27) := ref8_day.t some a.1 a.2.1 a.2.2
theorem ref8_day.good : Good 104 (sp (oc sI (oc sI (o1 sI))) (o1 s1) ref8_day.F) := good_tree _ _ _ Ok.nil 0 (fn := Try.f104) (by kernel_rfl) (by kernel_rfl) (by kernel_rfl) fun a => (ref8_day.nat _ a.1 a.2.1 a.2.2).trans (ref8_day.run a.1 a.2.1 a.2.2).symm
noncomputable def ref8_moved.t {γ : Type} (K : (S27 × Bool) → Option γ) (ref8_count : (S27) → Option (Int × Bool)) (ref8_word : (S27) → Option (Int × Bool)) (ref1_Add : (Int × Int × Int × Int × Int) → Option (Int × Int × Int × Bool)) (ref8_day : (Int × Int × Int) → Option (S27)) (l0 : List S27) (yy1 mo1 dd1 hh1 mi1 ss1 : Int) : Option γ :=
  if 0 < (↑l0.length : Int) then (ref8_count { f0 := (rd_T27 l0 0).f0, f1 := (rd_T27 l0 0).f1 }).bind fun t3 => bm (t3.snd)
     (if 1 < (↑l0.length : Int) then (ref8_word { f0 := (rd_T27 l0 1).f0, f1 := (rd_T27 l0 1).f1 }).bind fun t6 => bm (t6.snd)
        (if 2 < (↑l0.length : Int) then (ref8_word { f0 := (rd_T27 l0 2).f0, f1 := (rd_T27 l0 2).f1 }).bind fun t9 => bm (t9.snd)
           (if t3.fst < -1000000 then K ((⟨0, []⟩, false))
           else if t3.fst > 1000000 then K ((⟨0, []⟩, false))
            else if t6.fst < 1 then K ((⟨0, []⟩, false))
             else if t6.fst > 4 then K ((⟨0, []⟩, false))
              else if t9.fst = 1 then (if t6.fst = 1 then (ref1_Add (yy1, mo1, dd1, 0, wrap64 (t3.fst * t9.fst))).bind fun t17 => bm (t17.snd.snd.snd)
                   ((ref8_day (t17.fst, t17.snd.fst, t17.snd.snd.fst)).bind fun t19 => K ((⟨t19.f0, t19.f1⟩, true)))
                   ((ref8_day (t17.fst, t17.snd.fst, t17.snd.snd.fst)).bind fun t19 => K ((⟨t19.f0, t19.f1⟩, false)))
                else if t6.fst = 2 then (ref1_Add (yy1, mo1, dd1, 0, wrap64 (7 * wrap64 (t3.fst * t9.fst)))).bind fun t18 => bm (t18.snd.snd.snd)
                    ((ref8_day (t18.fst, t18.snd.fst, t18.snd.snd.fst)).bind fun t20 => K ((⟨t20.f0, t20.f1⟩, true)))
                    ((ref8_day (t18.fst, t18.snd.fst, t18.snd.snd.fst)).bind fun t20 => K ((⟨t20.f0, t20.f1⟩, false)))
                 else if t6.fst = 3 then (ref1_Add (yy1, mo1, dd1, wrap64 (t3.fst * t9.fst), 0)).bind fun t19 => bm (t19.snd.snd.snd)
                     ((ref8_day (t19.fst, t19.snd.fst, t19.snd.snd.fst)).bind fun t21 => K ((⟨t21.f0, t21.f1⟩, true)))
                     ((ref8_day (t19.fst, t19.snd.fst, t19.snd.snd.fst)).bind fun t21 => K ((⟨t21.f0, t21.f1⟩, false)))
                  else if t6.fst = 4 then (ref1_Add (yy1, mo1, dd1, wrap64 (12 * wrap64 (t3.fst * t9.fst)), 0)).bind fun t20 => bm (t20.snd.snd.snd)
                      ((ref8_day (t20.fst, t20.snd.fst, t20.snd.snd.fst)).bind fun t22 => K ((⟨t22.f0, t22.f1⟩, true)))
                      ((ref8_day (t20.fst, t20.snd.fst, t20.snd.snd.fst)).bind fun t22 => K ((⟨t22.f0, t22.f1⟩, false)))
                   else (ref1_Add (yy1, mo1, dd1, 0, 0)).bind fun t20 => bm (t20.snd.snd.snd)
                      ((ref8_day (t20.fst, t20.snd.fst, t20.snd.snd.fst)).bind fun t22 => K ((⟨t22.f0, t22.f1⟩, true)))
                      ((ref8_day (t20.fst, t20.snd.fst, t20.snd.snd.fst)).bind fun t22 => K ((⟨t22.f0, t22.f1⟩, false))))
               else if t9.fst = -1 then (if t6.fst = 1 then (ref1_Add (yy1, mo1, dd1, 0, wrap64 (t3.fst * t9.fst))).bind fun t18 => bm (t18.snd.snd.snd)
                    ((ref8_day (t18.fst, t18.snd.fst, t18.snd.snd.fst)).bind fun t20 => K ((⟨t20.f0, t20.f1⟩, true)))
                    ((ref8_day (t18.fst, t18.snd.fst, t18.snd.snd.fst)).bind fun t20 => K ((⟨t20.f0, t20.f1⟩, false)))
                 else if t6.fst = 2 then (ref1_Add (yy1, mo1, dd1, 0, wrap64 (7 * wrap64 (t3.fst * t9.fst)))).bind fun t19 => bm (t19.snd.snd.snd)
                     ((ref8_day (t19.fst, t19.snd.fst, t19.snd.snd.fst)).bind fun t21 => K ((⟨t21.f0, t21.f1⟩, true)))
                     ((ref8_day (t19.fst, t19.snd.fst, t19.snd.snd.fst)).bind fun t21 => K ((⟨t21.f0, t21.f1⟩, false)))
                  else if t6.fst = 3 then (ref1_Add (yy1, mo1, dd1, wrap64 (t3.fst * t9.fst), 0)).bind fun t20 => bm (t20.snd.snd.snd)
                      ((ref8_day (t20.fst, t20.snd.fst, t20.snd.snd.fst)).bind fun t22 => K ((⟨t22.f0, t22.f1⟩, true)))
                      ((ref8_day (t20.fst, t20.snd.fst, t20.snd.snd.fst)).bind fun t22 => K ((⟨t22.f0, t22.f1⟩, false)))
                   else if t6.fst = 4 then (ref1_Add (yy1, mo1, dd1, wrap64 (12 * wrap64 (t3.fst * t9.fst)), 0)).bind fun t21 => bm (t21.snd.snd.snd)
                       ((ref8_day (t21.fst, t21.snd.fst, t21.snd.snd.fst)).bind fun t23 => K ((⟨t23.f0, t23.f1⟩, true)))
                       ((ref8_day (t21.fst, t21.snd.fst, t21.snd.snd.fst)).bind fun t23 => K ((⟨t23.f0, t23.f1⟩, false)))
                    else (ref1_Add (yy1, mo1, dd1, 0, 0)).bind fun t21 => bm (t21.snd.snd.snd)
                       ((ref8_day (t21.fst, t21.snd.fst, t21.snd.snd.fst)).bind fun t23 => K ((⟨t23.f0, t23.f1⟩, true)))
                       ((ref8_day (t21.fst, t21.snd.fst, t21.snd.snd.fst)).bind fun t23 => K ((⟨t23.f0, t23.f1⟩, false))))
                else K ((⟨0, []⟩, false)))
           (K ((⟨0, []⟩, false)))
        else none)
        (if 2 < (↑l0.length : Int) then (ref8_word { f0 := (rd_T27 l0 2).f0, f1 := (rd_T27 l0 2).f1 }).bind fun t9 => bm (t9.snd)
           (K ((⟨0, []⟩, false)))
           (K ((⟨0, []⟩, false)))
        else none)
     else none)
     (if 1 < (↑l0.length : Int) then (ref8_word { f0 := (rd_T27 l0 1).f0, f1 := (rd_T27 l0 1).f1 }).bind fun t6 => bm (t6.snd)
        (if 2 < (↑l0.length : Int) then (ref8_word { f0 := (rd_T27 l0 2).f0, f1 := (rd_T27 l0 2).f1 }).bind fun t9 => bm (t9.snd)
           (K ((⟨0, []⟩, false)))
           (K ((⟨0, []⟩, false)))
        else none)
        (if 2 < (↑l0.length : Int) then (ref8_word { f0 := (rd_T27 l0 2).f0, f1 := (rd_T27 l0 2).f1 }).bind fun t9 => bm (t9.snd)
           (K ((⟨0, []⟩, false)))
           (K ((⟨0, []⟩, false)))
        else none)
     else none)
  else none
set_option maxRecDepth 100000 in
theorem ref8_moved.nat {γ : Type} (g : (S27 × Bool) → Option γ) (ref8_count : (S27) → Option (Int × Bool)) (ref8_word : (S27) → Option (Int × Bool)) (ref1_Add : (Int × Int × Int × Int × Int) → Option (Int × Int × Int × Bool)) (ref8_day : (Int × Int × Int) → Option (S27)) (l0 : List S27) (yy1 mo1 dd1 hh1 mi1 ss1 : Int) : (ref8_moved.t some ref8_count ref8_word ref1_Add ref8_day l0 yy1 mo1 dd1 hh1 mi1 ss1).bind g = ref8_moved.t g ref8_count ref8_word ref1_Add ref8_day l0 yy1 mo1 dd1 hh1 mi1 ss1 := by
  unfold ref8_moved.t
  repeat' first | exact rfl | refine nat_i ?_ ?_ | refine nat_b ?_ ?_ | refine nat_o (fun _ => ?_) | refine nat_m ?_ (fun _ => ?_)
set_option maxRecDepth 100000 in
theorem ref8_moved.run (ref8_count : (S27) → Option (Int × Bool)) (ref8_word : (S27) → Option (Int × Bool)) (ref1_Add : (Int × Int × Int × Int × Int) → Option (Int × Int × Int × Bool)) (ref8_day : (Int × Int × Int) → Option (S27)) (l0 : List S27) (yy1 mo1 dd1 hh1 mi1 ss1 : Int) : run ⟨[(102, sp (o1 s1) (oc sI (o1 sB)) ref8_count), (103, sp (o1 s1) (oc sI (o1 sB)) ref8_word), (30, sp (oc sI (oc sI (oc sI (oc sI (o1 sI))))) (oc sI (oc sI (oc sI (o1 sB)))) ref1_Add), (104, sp (oc sI (oc sI (o1 sI))) (o1 s1) ref8_day)], []⟩ 0 Try.f78 ((oc sV (o1 sM)).enc (l0, (yy1, mo1, dd1, hh1, mi1, ss1))) = ref8_moved.t (fun b => some (.ret (packD ((oc s1 (o1 sB)).enc b)))) ref8_count ref8_word ref1_Add ref8_day l0 yy1 mo1 dd1 hh1 mi1 ss1 := by kernel_rfl
noncomputable def ref8_moved.F (a : List S27 × Mom) : Option (S27 × Bool) := ref8_moved.t some ref8_count.F ref8_word.F ref1_Add.F ref8_day.F a.1 a.2.1 a.2.2.1 a.2.2.2.1 a.2.2.2.2.1 a.2.2.2.2.2.1 a.2.2.2.2.2.2
theorem ref8_moved.good : Good 78 (sp (oc sV (o1 sM)) (oc s1 (o1 sB)) ref8_moved.F) := good_tree _ _ _ (Ok.cons ref8_count.good (Ok.cons ref8_word.good (Ok.cons ref1_Add.good (Ok.cons ref8_day.good Ok.nil)))) 0 (fn := Try.f78) (by kernel_rfl) (by kernel_rfl) (by kernel_rfl) fun a => (ref8_moved.nat _ ref8_count.F ref8_word.F ref1_Add.F ref8_day.F a.1 a.2.1 a.2.2.1 a.2.2.2.1 a.2.2.2.2.1 a.2.2.2.2.2.1 a.2.2.2.2.2.2).trans (ref8_moved.run ref8_count.F ref8_word.F ref1_Add.F ref8_day.F a.1 a.2.1 a.2.2.1 a.2.2.2.1 a.2.2.2.2.1 a.2.2.2.2.2.1 a.2.2.2.2.2.2).symm
noncomputable def ref8_next.t {γ : Type} (K : (S27 × Bool) → Option γ) (ref8_word : (S27) → Option (Int × Bool)) (ref1_Days : (Int × Int × Int) → Option (Int)) (ref1_Civil : (Int) → Option (Int × Int × Int)) (ref1_Weekday : (Int × Int × Int) → Option (Int)) (ref8_day : (Int × Int × Int) → Option (S27)) (l0 : List S27) (yy1 mo1 dd1 hh1 mi1 ss1 : Int) : Option γ :=
  if 0 < (↑l0.length : Int) then (ref8_word { f0 := (rd_T27 l0 0).f0, f1 := (rd_T27 l0 0).f1 }).bind fun t3 => bm (t3.snd)
     (if t3.fst < 0 then K ((⟨0, []⟩, false))
     else if t3.fst > 6 then K ((⟨0, []⟩, false))
      else (ref1_Days (yy1, mo1, dd1)).bind fun t7 => (ref1_Civil (wrap64 (t7 + 1))).bind fun t8 => (ref1_Weekday (t8.fst, t8.snd.fst, t8.snd.snd)).bind fun t9 => if t9 = t3.fst then (ref8_day (t8.fst, t8.snd.fst, t8.snd.snd)).bind fun t11 => K ((⟨t11.f0, t11.f1⟩, true))
          else (ref1_Civil (wrap64 (wrap64 (t7 + 1) + 1))).bind fun t11 => (ref1_Weekday (t11.fst, t11.snd.fst, t11.snd.snd)).bind fun t12 => if t12 = t3.fst then (ref8_day (t11.fst, t11.snd.fst, t11.snd.snd)).bind fun t14 => K ((⟨t14.f0, t14.f1⟩, true))
             else (ref1_Civil (wrap64 (wrap64 (wrap64 (t7 + 1) + 1) + 1))).bind fun t14 => (ref1_Weekday (t14.fst, t14.snd.fst, t14.snd.snd)).bind fun t15 => if t15 = t3.fst then (ref8_day (t14.fst, t14.snd.fst, t14.snd.snd)).bind fun t17 => K ((⟨t17.f0, t17.f1⟩, true))
                else (ref1_Civil (wrap64 (wrap64 (wrap64 (wrap64 (t7 + 1) + 1) + 1) + 1))).bind fun t17 => (ref1_Weekday (t17.fst, t17.snd.fst, t17.snd.snd)).bind fun t18 => if t18 = t3.fst then (ref8_day (t17.fst, t17.snd.fst, t17.snd.snd)).bind fun t20 => K ((⟨t20.f0, t20.f1⟩, true))
                   else (ref1_Civil (wrap64 (wrap64 (wrap64 (wrap64 (wrap64 (t7 + 1) + 1) + 1) + 1) + 1))).bind fun t20 => (ref1_Weekday (t20.fst, t20.snd.fst, t20.snd.snd)).bind fun t21 => if t21 = t3.fst then (ref8_day (t20.fst, t20.snd.fst, t20.snd.snd)).bind fun t23 => K ((⟨t23.f0, t23.f1⟩, true))
                      else (ref1_Civil (wrap64 (wrap64 (wrap64 (wrap64 (wrap64 (wrap64 (t7 + 1) + 1) + 1) + 1) + 1) + 1))).bind fun t23 => (ref1_Weekday (t23.fst, t23.snd.fst, t23.snd.snd)).bind fun t24 => if t24 = t3.fst then (ref8_day (t23.fst, t23.snd.fst, t23.snd.snd)).bind fun t26 => K ((⟨t26.f0, t26.f1⟩, true))
                         else (ref1_Civil (wrap64 (wrap64 (wrap64 (wrap64 (wrap64 (wrap64 (wrap64 (t7 + 1) + 1) + 1) + 1) + 1) + 1) + 1))).bind fun t26 => (ref1_Weekday (t26.fst, t26.snd.fst, t26.snd.snd)).bind fun t27 => if t27 = t3.fst then (ref8_day (t26.fst, t26.snd.fst, t26.snd.snd)).bind fun t29 => K ((⟨t29.f0, t29.f1⟩, true))
                            else (ref1_Civil (wrap64 (wrap64 (wrap64 (wrap64 (wrap64 (wrap64 (wrap64 (wrap64 (t7 + 1) + 1) + 1) + 1) + 1) + 1) + 1) + 1))).bind fun t29 => (ref1_Weekday (t29.fst, t29.snd.fst, t29.snd.snd)).bind fun t30 => if t30 = t3.fst then (ref8_day (t29.fst, t29.snd.fst, t29.snd.snd)).bind fun t32 => K ((⟨t32.f0, t32.f1⟩, true))
                               else (ref1_Civil (wrap64 (wrap64 (wrap64 (wrap64 (wrap64 (wrap64 (wrap64 (wrap64 (wrap64 (t7 + 1) + 1) + 1) + 1) + 1) + 1) + 1) + 1) + 1))).bind fun t32 => none)
     (K ((⟨0, []⟩, false)))
  else none
set_option maxRecDepth 100000 in
theorem ref8_next.nat {γ : Type} (g : (S27 × Bool) → Option γ) (ref8_word : (S27) → Option (Int × Bool)) (ref1_Days : (Int × Int × Int) → Option (Int)) (ref1_Civil : (Int) → Option (Int × Int × Int)) (ref1_Weekday : (Int × Int × Int) → Option (Int)) (ref8_day : (Int × Int × Int) → Option (S27)) (l0 : List S27) (yy1 mo1 dd1 hh1 mi1 ss1 : Int) : (ref8_next.t some ref8_word ref1_Days ref1_Civil ref1_Weekday ref8_day l0 yy1 mo1 dd1 hh1 mi1 ss1).bind g = ref8_next.t g ref8_word ref1_Days ref1_Civil ref1_Weekday ref8_day l0 yy1 mo1 dd1 hh1 mi1 ss1 := by
  unfold ref8_next.t
  repeat' first | exact rfl | refine nat_i ?_ ?_ | refine nat_b ?_ ?_ | refine nat_o (fun _ => ?_) | refine nat_m ?_ (fun _ => ?_)
set_option maxRecDepth 100000 in
theorem ref8_next.run (ref8_word : (S27) → Option (Int × Bool)) (ref1_Days : (Int × Int × Int) → Option (Int)) (ref1_Civil : (Int) → Option (Int × Int × Int)) (ref1_Weekday : (Int × Int × Int) → Option (Int)) (ref8_day : (Int × Int × Int) → Option (S27)) (l0 : List S27) (yy1 mo1 dd1 hh1 mi1 ss1 : Int) : run ⟨[(103, sp (o1 s1) (oc sI (o1 sB)) ref8_word), (31, sp (oc sI (oc sI (o1 sI))) (o1 sI) ref1_Days), (55, sp (o1 sI) (oc sI (oc sI (o1 sI))) ref1_Civil), (32, sp (oc sI (oc sI (o1 sI))) (o1 sI) ref1_Weekday), (104, sp (oc sI (oc sI (o1 sI))) (o1 s1) ref8_day)], []⟩ 8 Try.f79 ((oc sV (o1 sM)).enc (l0, (yy1, mo1, dd1, hh1, mi1, ss1))) = ref8_next.t (fun b => some (.ret (packD ((oc s1 (o1 sB)).enc b)))) ref8_word ref1_Days ref1_Civil ref1_Weekday ref8_day l0 yy1 mo1 dd1 hh1 mi1 ss1 := by kernel_rfl
noncomputable def ref8_next.F (a : List S27 × Mom) : Option (S27 × Bool) := ref8_next.t some ref8_word.F interlocutorref1_Days.F ref1_Civil.F interlocutorref1_Weekday.F ref8_day.F a.1 a.2.1 a.2.2.1 a.2.2.2.1 a.2.2.2.2.1 a.2.2.2.2.2.1 a.2.2.2.2.2.2
theorem ref8_next.good : Good 79 (sp (oc sV (o1 sM)) (oc s1 (o1 sB)) ref8_next.F) := good_tree _ _ _ (Ok.cons ref8_word.good (Ok.cons interlocutorref1_Days.good (Ok.cons ref1_Civil.good (Ok.cons interlocutorref1_Weekday.good (Ok.cons ref8_day.good Ok.nil))))) 8 (fn := Try.f79) (by kernel_rfl) (by kernel_rfl) (by kernel_rfl) fun a => (ref8_next.nat _ ref8_word.F interlocutorref1_Days.F ref1_Civil.F interlocutorref1_Weekday.F ref8_day.F a.1 a.2.1 a.2.2.1 a.2.2.2.1 a.2.2.2.2.1 a.2.2.2.2.2.1 a.2.2.2.2.2.2).trans (ref8_next.run ref8_word.F interlocutorref1_Days.F ref1_Civil.F interlocutorref1_Weekday.F ref8_day.F a.1 a.2.1 a.2.2.1 a.2.2.2.1 a.2.2.2.2.1 a.2.2.2.2.2.1 a.2.2.2.2.2.2).symm
noncomputable def ref8_whole.t {γ : Type} (K : (S27) → Option γ) (ref2_Norm : (Int × Int) → Option (Int × Int)) (n0 : Int) (n1 : Int) : Option γ :=
  (ref2_Norm (n0, n1)).bind fun t2 => K ⟨7, [t2.fst, t2.snd]⟩
set_option maxRecDepth 100000 in
theorem ref8_whole.nat {γ : Type} (g : (S27) → Option γ) (ref2_Norm : (Int × Int) → Option (Int × Int)) (n0 : Int) (n1 : Int) : (ref8_whole.t some ref2_Norm n0 n1).bind g = ref8_whole.t g ref2_Norm n0 n1 := by
  unfold ref8_whole.t
  repeat' first | exact rfl | refine nat_i ?_ ?_ | refine nat_b ?_ ?_ | refine nat_o (fun _ => ?_) | refine nat_m ?_ (fun _ => ?_)
set_option maxRecDepth 100000 in
theorem ref8_whole.run (ref2_Norm : (Int × Int) → Option (Int × Int)) (n0 : Int) (n1 : Int) : run ⟨[(89, sp (oc sI (o1 sI)) (oc sI (o1 sI)) ref2_Norm)], []⟩ 0 Try.f81 ((oc sI (o1 sI)).enc (n0, n1)) = ref8_whole.t (fun b => some (.ret (packD ((o1 s1).enc b)))) ref2_Norm n0 n1 := by kernel_rfl
noncomputable def ref8_whole.F (a : Int × Int) : Option (S27) := ref8_whole.t some interlocutorref2_Norm.F a.1 a.2
theorem ref8_whole.good : Good 81 (sp (oc sI (o1 sI)) (o1 s1) ref8_whole.F) := good_tree _ _ _ (Ok.cons interlocutorref2_Norm.good Ok.nil) 0 (fn := Try.f81) (by kernel_rfl) (by kernel_rfl) (by kernel_rfl) fun a => (ref8_whole.nat _ interlocutorref2_Norm.F a.1 a.2).trans (ref8_whole.run interlocutorref2_Norm.F a.1 a.2).symm
noncomputable def ref8_group.t {γ : Type} (K : (S27 × Bool) → Option γ) (ref8_number : (S27) → Option (Int × Bool)) (ref8_whole : (Int × Int) → Option (S27)) (l0 : List S27) : Option γ :=
  if 0 < (↑l0.length : Int) then (if 0 < (↑l0.length : Int) then (ref8_number { f0 := (rd_T27 l0 0).f0, f1 := (rd_T27 l0 0).f1 }).bind fun t4 => bm (t4.snd)
      (if 0 < (↑l0.length : Int) then (if 1 < (↑(rd_T27 l0 0).f1.length : Int) then (if rd (rd_T27 l0 0).f1 1 > 3 then K ((⟨0, []⟩, false))
        else if 0 < (↑l0.length : Int) then (if 1 < (↑(rd_T27 l0 0).f1.length : Int) then (if rd (rd_T27 l0 0).f1 1 < 1 then K ((⟨0, []⟩, false))
           else if 0 < (↑l0.length : Int) then (if 1 < (↑(rd_T27 l0 0).f1.length : Int) then (if 1 < (↑l0.length : Int) then (if 1 < (↑l0.length : Int) then (ref8_number { f0 := (rd_T27 l0 1).f0, f1 := (rd_T27 l0 1).f1 }).bind fun t16 => bm (t16.snd)
                  (if 1 < (↑l0.length : Int) then (if 1 < (↑(rd_T27 l0 1).f1.length : Int) then (if rd (rd_T27 l0 1).f1 1 > 3 then K ((⟨0, []⟩, false))
                    else if 1 < (↑l0.length : Int) then (if 1 < (↑(rd_T27 l0 1).f1.length : Int) then (if rd (rd_T27 l0 1).f1 1 = 3 then (if 1 < (↑l0.length : Int) then (if 1 < (↑(rd_T27 l0 1).f1.length : Int) then (if rd (rd_T27 l0 1).f1 1 < 1 then K ((⟨0, []⟩, false))
                          else if 1 < (↑l0.length : Int) then (if 1 < (↑(rd_T27 l0 1).f1.length : Int) then (if 2 < (↑l0.length : Int) then (if 2 < (↑l0.length : Int) then (ref8_number { f0 := (rd_T27 l0 2).f0, f1 := (rd_T27 l0 2).f1 }).bind fun t31 => bm (t31.snd)
                                 (if 2 < (↑l0.length : Int) then (if 1 < (↑(rd_T27 l0 2).f1.length : Int) then (if rd (rd_T27 l0 2).f1 1 > 3 then K ((⟨0, []⟩, false))
                                   else if 2 < (↑l0.length : Int) then (if 1 < (↑(rd_T27 l0 2).f1.length : Int) then (if rd (rd_T27 l0 2).f1 1 = 3 then (if 2 < (↑l0.length : Int) then (if 1 < (↑(rd_T27 l0 2).f1.length : Int) then (if rd (rd_T27 l0 2).f1 1 < 1 then K ((⟨0, []⟩, false))
                                         else if 2 < (↑l0.length : Int) then (if 1 < (↑(rd_T27 l0 2).f1.length : Int) then (if 3 < (↑l0.length : Int) then (if 3 < (↑l0.length : Int) then (ref8_number { f0 := (rd_T27 l0 3).f0, f1 := (rd_T27 l0 3).f1 }).bind fun t46 => bm (t46.snd)
                                                (if 3 < (↑l0.length : Int) then (if 1 < (↑(rd_T27 l0 3).f1.length : Int) then (if rd (rd_T27 l0 3).f1 1 > 3 then K ((⟨0, []⟩, false))
                                                  else if 3 < (↑l0.length : Int) then (if 1 < (↑(rd_T27 l0 3).f1.length : Int) then (if rd (rd_T27 l0 3).f1 1 = 3 then (if 3 < (↑l0.length : Int) then (if 1 < (↑(rd_T27 l0 3).f1.length : Int) then (if rd (rd_T27 l0 3).f1 1 < 1 then K ((⟨0, []⟩, false))
                                                        else if 3 < (↑l0.length : Int) then (if 1 < (↑(rd_T27 l0 3).f1.length : Int) then (if 4 < (↑l0.length : Int) then (if 4 < (↑l0.length : Int) then (ref8_number { f0 := (rd_T27 l0 4).f0, f1 := (rd_T27 l0 4).f1 }).bind fun t61 => bm (t61.snd)
                                                               (if 4 < (↑l0.length : Int) then (if 1 < (↑(rd_T27 l0 4).f1.length : Int) then (if rd (rd_T27 l0 4).f1 1 > 3 then K ((⟨0, []⟩, false))
                                                                 else if 4 < (↑l0.length : Int) then (if 1 < (↑(rd_T27 l0 4).f1.length : Int) then (if rd (rd_T27 l0 4).f1 1 = 3 then (if 4 < (↑l0.length : Int) then (if 1 < (↑(rd_T27 l0 4).f1.length : Int) then (if rd (rd_T27 l0 4).f1 1 < 1 then K ((⟨0, []⟩, false))
                                                                       else if 4 < (↑l0.length : Int) then (if 1 < (↑(rd_T27 l0 4).f1.length : Int) then (if 5 < (↑l0.length : Int) then (if 5 < (↑l0.length : Int) then (ref8_number { f0 := (rd_T27 l0 5).f0, f1 := (rd_T27 l0 5).f1 }).bind fun t76 => bm (t76.snd)
                                                                              (if 5 < (↑l0.length : Int) then (if 1 < (↑(rd_T27 l0 5).f1.length : Int) then (if rd (rd_T27 l0 5).f1 1 > 3 then K ((⟨0, []⟩, false))
                                                                                else if 5 < (↑l0.length : Int) then (if 1 < (↑(rd_T27 l0 5).f1.length : Int) then (if rd (rd_T27 l0 5).f1 1 = 3 then (if 5 < (↑l0.length : Int) then (if 1 < (↑(rd_T27 l0 5).f1.length : Int) then (if rd (rd_T27 l0 5).f1 1 < 1 then K ((⟨0, []⟩, false))
                                                                                      else if 5 < (↑l0.length : Int) then (if 1 < (↑(rd_T27 l0 5).f1.length : Int) then (if 6 < (↑l0.length : Int) then (if 6 < (↑l0.length : Int) then (ref8_number { f0 := (rd_T27 l0 6).f0, f1 := (rd_T27 l0 6).f1 }).bind fun t91 => bm (t91.snd)
                                                                                             (if 6 < (↑l0.length : Int) then (if 1 < (↑(rd_T27 l0 6).f1.length : Int) then (if rd (rd_T27 l0 6).f1 1 > 3 then K ((⟨0, []⟩, false))
                                                                                               else if 6 < (↑l0.length : Int) then (if 1 < (↑(rd_T27 l0 6).f1.length : Int) then (if rd (rd_T27 l0 6).f1 1 = 3 then (if 6 < (↑l0.length : Int) then (if 1 < (↑(rd_T27 l0 6).f1.length : Int) then (if rd (rd_T27 l0 6).f1 1 < 1 then K ((⟨0, []⟩, false))
                                                                                                     else if 6 < (↑l0.length : Int) then (if 1 < (↑(rd_T27 l0 6).f1.length : Int) then none
                                                                                                       else none)
                                                                                                      else none)
                                                                                                    else none)
                                                                                                   else none)
                                                                                                  else K ((⟨0, []⟩, false)))
                                                                                                 else none)
                                                                                                else none)
                                                                                              else none)
                                                                                             else none)
                                                                                             (K ((⟨0, []⟩, false)))
                                                                                          else none)
                                                                                         else (ref8_whole (wrap64 (wrap64 (1000 * wrap64 (wrap64 (1000 * wrap64 (wrap64 (1000 * wrap64 (wrap64 (1000 * wrap64 (wrap64 (1000 * wrap64 (0 + t4.fst)) + t16.fst)) + t31.fst)) + t46.fst)) + t61.fst)) + t76.fst), 0)).bind fun t90 => if wrap64 (wrap64 (wrap64 (wrap64 (wrap64 (wrap64 (0 + rd (rd_T27 l0 0).f1 1) + rd (rd_T27 l0 1).f1 1) + rd (rd_T27 l0 2).f1 1) + rd (rd_T27 l0 3).f1 1) + rd (rd_T27 l0 4).f1 1) + rd (rd_T27 l0 5).f1 1) ≤ 18 then K ((⟨t90.f0, t90.f1⟩, true))
                                                                                           else K ((⟨t90.f0, t90.f1⟩, false)))
                                                                                        else none)
                                                                                       else none)
                                                                                     else none)
                                                                                    else none)
                                                                                   else K ((⟨0, []⟩, false)))
                                                                                  else none)
                                                                                 else none)
                                                                               else none)
                                                                              else none)
                                                                              (K ((⟨0, []⟩, false)))
                                                                           else none)
                                                                          else (ref8_whole (wrap64 (wrap64 (1000 * wrap64 (wrap64 (1000 * wrap64 (wrap64 (1000 * wrap64 (wrap64 (1000 * wrap64 (0 + t4.fst)) + t16.fst)) + t31.fst)) + t46.fst)) + t61.fst), 0)).bind fun t75 => if wrap64 (wrap64 (wrap64 (wrap64 (wrap64 (0 + rd (rd_T27 l0 0).f1 1) + rd (rd_T27 l0 1).f1 1) + rd (rd_T27 l0 2).f1 1) + rd (rd_T27 l0 3).f1 1) + rd (rd_T27 l0 4).f1 1) ≤ 18 then K ((⟨t75.f0, t75.f1⟩, true))
                                                                            else K ((⟨t75.f0, t75.f1⟩, false)))
                                                                         else none)
                                                                        else none)
                                                                      else none)
                                                                     else none)
                                                                    else K ((⟨0, []⟩, false)))
                                                                   else none)
                                                                  else none)
                                                                else none)
                                                               else none)
                                                               (K ((⟨0, []⟩, false)))
                                                            else none)
                                                           else (ref8_whole (wrap64 (wrap64 (1000 * wrap64 (wrap64 (1000 * wrap64 (wrap64 (1000 * wrap64 (0 + t4.fst)) + t16.fst)) + t31.fst)) + t46.fst), 0)).bind fun t60 => if wrap64 (wrap64 (wrap64 (wrap64 (0 + rd (rd_T27 l0 0).f1 1) + rd (rd_T27 l0 1).f1 1) + rd (rd_T27 l0 2).f1 1) + rd (rd_T27 l0 3).f1 1) ≤ 18 then K ((⟨t60.f0, t60.f1⟩, true))
                                                             else K ((⟨t60.f0, t60.f1⟩, false)))
                                                          else none)
                                                         else none)
                                                       else none)
                                                      else none)
                                                     else K ((⟨0, []⟩, false)))
                                                    else none)
                                                   else none)
                                                 else none)
                                                else none)
                                                (K ((⟨0, []⟩, false)))
                                             else none)
                                            else (ref8_whole (wrap64 (wrap64 (1000 * wrap64 (wrap64 (1000 * wrap64 (0 + t4.fst)) + t16.fst)) + t31.fst), 0)).bind fun t45 => if wrap64 (wrap64 (wrap64 (0 + rd (rd_T27 l0 0).f1 1) + rd (rd_T27 l0 1).f1 1) + rd (rd_T27 l0 2).f1 1) ≤ 18 then K ((⟨t45.f0, t45.f1⟩, true))
                                              else K ((⟨t45.f0, t45.f1⟩, false)))
                                           else none)
                                          else none)
                                        else none)
                                       else none)
                                      else K ((⟨0, []⟩, false)))
                                     else none)
                                    else none)
                                  else none)
                                 else none)
                                 (K ((⟨0, []⟩, false)))
                              else none)
                             else (ref8_whole (wrap64 (wrap64 (1000 * wrap64 (0 + t4.fst)) + t16.fst), 0)).bind fun t30 => if wrap64 (wrap64 (0 + rd (rd_T27 l0 0).f1 1) + rd (rd_T27 l0 1).f1 1) ≤ 18 then K ((⟨t30.f0, t30.f1⟩, true))
                               else K ((⟨t30.f0, t30.f1⟩, false)))
                            else none)
                           else none)
                         else none)
                        else none)
                       else K ((⟨0, []⟩, false)))
                      else none)
                     else none)
                   else none)
                  else none)
                  (K ((⟨0, []⟩, false)))
               else none)
              else (ref8_whole (wrap64 (0 + t4.fst), 0)).bind fun t15 => if wrap64 (0 + rd (rd_T27 l0 0).f1 1) ≤ 18 then K ((⟨t15.f0, t15.f1⟩, true))
                else K ((⟨t15.f0, t15.f1⟩, false)))
             else none)
            else none)
          else none)
         else none)
       else none)
      else none)
      (K ((⟨0, []⟩, false)))
   else none)
  else (ref8_whole (0, 0)).bind fun t3 => K ((⟨t3.f0, t3.f1⟩, true))
set_option maxRecDepth 100000 in
theorem ref8_group.nat {γ : Type} (g : (S27 × Bool) → Option γ) (ref8_number : (S27) → Option (Int × Bool)) (ref8_whole : (Int × Int) → Option (S27)) (l0 : List S27) : (ref8_group.t some ref8_number ref8_whole l0).bind g = ref8_group.t g ref8_number ref8_whole l0 := by
  unfold ref8_group.t
  repeat' first | exact rfl | refine nat_i ?_ ?_ | refine nat_b ?_ ?_ | refine nat_o (fun _ => ?_) | refine nat_m ?_ (fun _ => ?_)
set_option maxRecDepth 100000 in
theorem ref8_group.run (ref8_number : (S27) → Option (Int × Bool)) (ref8_whole : (Int × Int) → Option (S27)) (l0 : List S27) : run ⟨[(80, sp (o1 s1) (oc sI (o1 sB)) ref8_number), (81, sp (oc sI (o1 sI)) (o1 s1) ref8_whole)], []⟩ 7 Try.f83 ((o1 sV).enc l0) = ref8_group.t (fun b => some (.ret (packD ((oc s1 (o1 sB)).enc b)))) ref8_number ref8_whole l0 := by kernel_rfl
noncomputable def ref8_group.F (a : List S27) : Option (S27 × Bool) := ref8_group.t some ref8_number.F ref8_whole.F a
theorem ref8_group.good : Good 83 (sp (o1 sV) (oc s1 (o1 sB)) ref8_group.F) := good_tree _ _ _ (Ok.cons ref8_number.good (Ok.cons ref8_whole.good Ok.nil)) 7 (fn := Try.f83) (by kernel_rfl) (by kernel_rfl) (by kernel_rfl) fun a => (ref8_group.nat _ ref8_number.F ref8_whole.F a).trans (ref8_group.run ref8_number.F ref8_whole.F a).symm
noncomputable def ref8_point.t {γ : Type} (K : (S27 × Bool) → Option γ) (ref8_number : (S27) → Option (Int × Bool)) (ref2_Join : (Int × Int × Int) → Option (Int × Int × Bool)) (l0 : List S27) : Option γ :=
  if 0 < (↑l0.length : Int) then (ref8_number { f0 := (rd_T27 l0 0).f0, f1 := (rd_T27 l0 0).f1 }).bind fun t3 => bm (t3.snd)
     (if 1 < (↑l0.length : Int) then (ref8_number { f0 := (rd_T27 l0 1).f0, f1 := (rd_T27 l0 1).f1 }).bind fun t6 => bm (t6.snd)
        (if 1 < (↑l0.length : Int) then (if 1 < (↑(rd_T27 l0 1).f1.length : Int) then (ref2_Join (t3.fst, t6.fst, rd (rd_T27 l0 1).f1 1)).bind fun t10 => bm (t10.snd.snd)
            (K ((⟨7, [t10.fst, t10.snd.fst]⟩, true)))
            (K ((⟨7, [t10.fst, t10.snd.fst]⟩, false)))
         else none)
        else none)
        (K ((⟨0, []⟩, false)))
     else none)
     (if 1 < (↑l0.length : Int) then (ref8_number { f0 := (rd_T27 l0 1).f0, f1 := (rd_T27 l0 1).f1 }).bind fun t6 => bm (t6.snd)
        (K ((⟨0, []⟩, false)))
        (K ((⟨0, []⟩, false)))
     else none)
  else none
set_option maxRecDepth 100000 in
theorem ref8_point.nat {γ : Type} (g : (S27 × Bool) → Option γ) (ref8_number : (S27) → Option (Int × Bool)) (ref2_Join : (Int × Int × Int) → Option (Int × Int × Bool)) (l0 : List S27) : (ref8_point.t some ref8_number ref2_Join l0).bind g = ref8_point.t g ref8_number ref2_Join l0 := by
  unfold ref8_point.t
  repeat' first | exact rfl | refine nat_i ?_ ?_ | refine nat_b ?_ ?_ | refine nat_o (fun _ => ?_) | refine nat_m ?_ (fun _ => ?_)
set_option maxRecDepth 100000 in
theorem ref8_point.run (ref8_number : (S27) → Option (Int × Bool)) (ref2_Join : (Int × Int × Int) → Option (Int × Int × Bool)) (l0 : List S27) : run ⟨[(80, sp (o1 s1) (oc sI (o1 sB)) ref8_number), (105, sp (oc sI (oc sI (o1 sI))) (oc sI (oc sI (o1 sB))) ref2_Join)], []⟩ 0 Try.f82 ((o1 sV).enc l0) = ref8_point.t (fun b => some (.ret (packD ((oc s1 (o1 sB)).enc b)))) ref8_number ref2_Join l0 := by kernel_rfl
noncomputable def ref8_point.F (a : List S27) : Option (S27 × Bool) := ref8_point.t some ref8_number.F ref2_Join.F a
theorem ref8_point.good : Good 82 (sp (o1 sV) (oc s1 (o1 sB)) ref8_point.F) := good_tree _ _ _ (Ok.cons ref8_number.good (Ok.cons ref2_Join.good Ok.nil)) 0 (fn := Try.f82) (by kernel_rfl) (by kernel_rfl) (by kernel_rfl) fun a => (ref8_point.nat _ ref8_number.F ref2_Join.F a).trans (ref8_point.run ref8_number.F ref2_Join.F a).symm
noncomputable def ref8_paid.t {γ : Type} (K : (S27 × Bool) → Option γ) (ref8_word : (S27) → Option (Int × Bool)) (ref8_Right : (S27) → Option (Bool)) (ref2_Scaled : (Int × Int × Int) → Option (Int × Bool)) (l0 : List S27) : Option γ :=
  if 0 < (↑l0.length : Int) then (ref8_word { f0 := (rd_T27 l0 0).f0, f1 := (rd_T27 l0 0).f1 }).bind fun t3 => bm (t3.snd)
     (if t3.fst < 0 then K ((⟨0, []⟩, false))
     else if 1 < (↑l0.length : Int) then (if (rd_T27 l0 1).f0 = 7 then (if 1 < (↑l0.length : Int) then (ref8_Right { f0 := (rd_T27 l0 1).f0, f1 := (rd_T27 l0 1).f1 }).bind fun t9 => bm (t9)
           (if 1 < (↑l0.length : Int) then (if 0 < (↑(rd_T27 l0 1).f1.length : Int) then (if 1 < (↑l0.length : Int) then (if 1 < (↑(rd_T27 l0 1).f1.length : Int) then (ref2_Scaled (rd (rd_T27 l0 1).f1 0, rd (rd_T27 l0 1).f1 1, t3.fst.tmod 10)).bind fun t15 => bm (t15.snd)
                 (K ((⟨8, [t3.fst, t15.fst]⟩, true)))
                 (K ((⟨8, [t3.fst, t15.fst]⟩, false)))
              else none)
             else none)
            else none)
           else none)
           (K ((⟨0, []⟩, false)))
        else none)
       else K ((⟨0, []⟩, false)))
      else none)
     (K ((⟨0, []⟩, false)))
  else none
set_option maxRecDepth 100000 in
theorem ref8_paid.nat {γ : Type} (g : (S27 × Bool) → Option γ) (ref8_word : (S27) → Option (Int × Bool)) (ref8_Right : (S27) → Option (Bool)) (ref2_Scaled : (Int × Int × Int) → Option (Int × Bool)) (l0 : List S27) : (ref8_paid.t some ref8_word ref8_Right ref2_Scaled l0).bind g = ref8_paid.t g ref8_word ref8_Right ref2_Scaled l0 := by
  unfold ref8_paid.t
  repeat' first | exact rfl | refine nat_i ?_ ?_ | refine nat_b ?_ ?_ | refine nat_o (fun _ => ?_) | refine nat_m ?_ (fun _ => ?_)
set_option maxRecDepth 100000 in
theorem ref8_paid.run (ref8_word : (S27) → Option (Int × Bool)) (ref8_Right : (S27) → Option (Bool)) (ref2_Scaled : (Int × Int × Int) → Option (Int × Bool)) (l0 : List S27) : run ⟨[(103, sp (o1 s1) (oc sI (o1 sB)) ref8_word), (29, sp (o1 s1) (o1 sB) ref8_Right), (117, sp (oc sI (oc sI (o1 sI))) (oc sI (o1 sB)) ref2_Scaled)], []⟩ 0 Try.f106 ((o1 sV).enc l0) = ref8_paid.t (fun b => some (.ret (packD ((oc s1 (o1 sB)).enc b)))) ref8_word ref8_Right ref2_Scaled l0 := by kernel_rfl
noncomputable def ref8_paid.F (a : List S27) : Option (S27 × Bool) := ref8_paid.t some ref8_word.F ref8_Right.F ref2_Scaled.F a
theorem ref8_paid.good : Good 106 (sp (o1 sV) (oc s1 (o1 sB)) ref8_paid.F) := good_tree _ _ _ (Ok.cons ref8_word.good (Ok.cons ref8_Right.good (Ok.cons ref2_Scaled.good Ok.nil))) 0 (fn := Try.f106) (by kernel_rfl) (by kernel_rfl) (by kernel_rfl) fun a => (ref8_paid.nat _ ref8_word.F ref8_Right.F ref2_Scaled.F a).trans (ref8_paid.run ref8_word.F ref8_Right.F ref2_Scaled.F a).symm
noncomputable def ref8_lasting.t {γ : Type} (K : (S27 × Bool) → Option γ) (ref8_count : (S27) → Option (Int × Bool)) (ref8_word : (S27) → Option (Int × Bool)) (l0 : List S27) : Option γ :=
  if 0 < (↑l0.length : Int) then (ref8_count { f0 := (rd_T27 l0 0).f0, f1 := (rd_T27 l0 0).f1 }).bind fun t3 => bm (t3.snd)
     (if 1 < (↑l0.length : Int) then (ref8_word { f0 := (rd_T27 l0 1).f0, f1 := (rd_T27 l0 1).f1 }).bind fun t6 => bm (t6.snd)
        (if t3.fst < 0 then K ((⟨0, []⟩, false))
        else if t6.fst < 1 then K ((⟨0, []⟩, false))
         else if t6.fst = 0 then none
          else if t3.fst > wrap64 (Int.tdiv 9007199254740991 t6.fst) then K ((⟨0, []⟩, false))
           else K ((⟨9, [wrap64 (t3.fst * t6.fst)]⟩, true)))
        (K ((⟨0, []⟩, false)))
     else none)
     (if 1 < (↑l0.length : Int) then (ref8_word { f0 := (rd_T27 l0 1).f0, f1 := (rd_T27 l0 1).f1 }).bind fun t6 => bm (t6.snd)
        (K ((⟨0, []⟩, false)))
        (K ((⟨0, []⟩, false)))
     else none)
  else none
set_option maxRecDepth 100000 in
theorem ref8_lasting.nat {γ : Type} (g : (S27 × Bool) → Option γ) (ref8_count : (S27) → Option (Int × Bool)) (ref8_word : (S27) → Option (Int × Bool)) (l0 : List S27) : (ref8_lasting.t some ref8_count ref8_word l0).bind g = ref8_lasting.t g ref8_count ref8_word l0 := by
  unfold ref8_lasting.t
  repeat' first | exact rfl | refine nat_i ?_ ?_ | refine nat_b ?_ ?_ | refine nat_o (fun _ => ?_) | refine nat_m ?_ (fun _ => ?_)
set_option maxRecDepth 100000 in
theorem ref8_lasting.run (ref8_count : (S27) → Option (Int × Bool)) (ref8_word : (S27) → Option (Int × Bool)) (l0 : List S27) : run ⟨[(102, sp (o1 s1) (oc sI (o1 sB)) ref8_count), (103, sp (o1 s1) (oc sI (o1 sB)) ref8_word)], []⟩ 0 Try.f107 ((o1 sV).enc l0) = ref8_lasting.t (fun b => some (.ret (packD ((oc s1 (o1 sB)).enc b)))) ref8_count ref8_word l0 := by kernel_rfl
noncomputable def ref8_lasting.F (a : List S27) : Option (S27 × Bool) := ref8_lasting.t some ref8_count.F ref8_word.F a
theorem ref8_lasting.good : Good 107 (sp (o1 sV) (oc s1 (o1 sB)) ref8_lasting.F) := good_tree _ _ _ (Ok.cons ref8_count.good (Ok.cons ref8_word.good Ok.nil)) 0 (fn := Try.f107) (by kernel_rfl) (by kernel_rfl) (by kernel_rfl) fun a => (ref8_lasting.nat _ ref8_count.F ref8_word.F a).trans (ref8_lasting.run ref8_count.F ref8_word.F a).symm
end Ev
end Go.Proofs.Ytldfljlklfhjkaa.PE
