/- These days are just these: the plain statement behind the row. Conditions: none. -/
import Derived.Test.YtbdabmegbhobiaaPCivx5
import Derived.Test.YtbdabmegbhobiaaCal
namespace Go.Proofs.Ytbdabmegbhobiaa.Pure
open Go.RowKit Go.Proofs.Ytbdabmegbhobiaa.PCiv Go.Proofs.YtbdabmegbhobiaaW.PrintWords Go.Proofs.YtbdabmegbhobiaaW.PrintLast

theorem CivilKnown : interlocutorlaw1_CivilKnown.Pure := by
  intro n hn
  obtain ⟨h, h2⟩ := wf_bd hn
  unfold interlocutorlaw1_CivilKnown.f
  simp only [known_true, Option.bind_some, if_true]
  rw [show ((([1, 1582, 1600, 1969, 2000, 2024, 9999, 0, 2100] : List Int).length : Int)) = 9 from rfl, within_of n 9 h h2 (by omega) (by omega)]
  have k0 : 0 ≤ n % 9 := by omega
  have k1 : n % 9 < 9 := by omega
  generalize n % 9 = k at *
  have : k = 0 ∨ k = 1 ∨ k = 2 ∨ k = 3 ∨ k = 4 ∨ k = 5 ∨ k = 6 ∨ k = 7 ∨ k = 8 := by omega
  rcases this with rfl | rfl | rfl | rfl | rfl | rfl | rfl | rfl | rfl <;> decide +kernel
end Go.Proofs.Ytbdabmegbhobiaa.Pure
