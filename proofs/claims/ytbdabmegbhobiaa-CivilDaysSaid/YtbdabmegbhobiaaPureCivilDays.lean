/- Any day's number is the document's, and back; so is its weekday: the plain statement behind the row. Conditions: none. -/
import Derived.Test.YtbdabmegbhobiaaPCivx2
import Derived.Test.YtbdabmegbhobiaaCal
namespace Go.Proofs.Ytbdabmegbhobiaa.Pure
open Go.RowKit Go.Proofs.Ytbdabmegbhobiaa.PCiv Go.Proofs.YtbdabmegbhobiaaW.PrintWords Go.Proofs.YtbdabmegbhobiaaW.PrintLast

theorem CivilDays : interlocutorlaw1_CivilDays.Pure := by
  intro n hn
  obtain ⟨h, h2⟩ := wf_bd hn
  obtain ⟨y, m, d, hd, v, near, _, _⟩ := day_of n true h h2
  obtain ⟨c1, c2, c3⟩ := civ_days y m d v
  have hk := days_near near v
  unfold interlocutorlaw1_CivilDays.f
  simp only [known_true, hd, Option.bind_some, if_true, days_of near v, civil_of (show -1000000000000 ≤ daysOf y m d by omega) (by omega), rdays_of near v, weekday_of near v, rweekday_of near v, c1, c2, c3, beq_self_eq_true]

end Go.Proofs.Ytbdabmegbhobiaa.Pure
