/- Further words of the kit's print that a claim uses. Conditions: each theorem's own. -/
import Derived.Test.YtldfljlklfhjkaaVTab
import Derived.Test.YtldfljlklfhjkaaVMore
import Derived.Test.YtldfljlklfhjkaaVNEv
import Derived.Test.YtldfljlklfhjkaaVFour
/-! ### 50. A region's order in a table, made once a region: each step asks the table (numbers alone), not the operations -/
namespace Go.Proofs.YtldfljlklfhjkaaW.PrintLast
open Go.Proofs.YtldfljlklfhjkaaW.PrintWords (Aside0)
section
variable {md : Region.Mode} {ops : Array Oper} {T : Bool × List (List Nat × List Nat)} {l l' li lj lk : Array Bool} {ds : List Nat} {i j k : Nat}
theorem three_of (hT : rtab md ops = T) (h : (readyT T.2 l.toList == [i, j, k] && l.toList.set i true == li.toList && l.toList.set j true == lj.toList && l.toList.set k true == lk.toList) = true) :
    (Region.ready md ops l == [i, j, k] && l.setIfInBounds i true == li && l.setIfInBounds j true == lj && l.setIfInBounds k true == lk) = true := by
  simp only [Bool.and_eq_true] at h ⊢
  obtain ⟨⟨⟨h1, h2⟩, h3⟩, h4⟩ := h
  subst hT
  exact ⟨⟨⟨by rw [ready_eq]; exact h1, set_of h2⟩, set_of h3⟩, set_of h4⟩
end
end Go.Proofs.YtldfljlklfhjkaaW.PrintLast

