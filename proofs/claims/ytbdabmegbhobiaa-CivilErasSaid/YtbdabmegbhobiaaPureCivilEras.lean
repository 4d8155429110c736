/- Four hundred years on a day is 146097 further, of the same weekday: the plain statement behind the row. Conditions: none. -/
import Derived.Test.YtbdabmegbhobiaaPCivx6
import Derived.Test.YtbdabmegbhobiaaCal
namespace Go.Proofs.Ytbdabmegbhobiaa.Pure
open Go.RowKit Go.Proofs.Ytbdabmegbhobiaa.PCiv Go.Proofs.YtbdabmegbhobiaaW.PrintWords Go.Proofs.YtbdabmegbhobiaaW.PrintLast

theorem CivilEras : interlocutorlaw1_CivilEras.Pure := by
  intro n k hn hk
  obtain ⟨h, h2⟩ := wf_bd hn
  obtain ⟨g, g2⟩ := wf_bd hk
  obtain ⟨y, m, d, hd, v, near, _, hy⟩ := day_of n false h h2
  have hy := hy rfl
  have hb := days_near near v
  unfold interlocutorlaw1_CivilEras.f
  simp only [known_true, hd, Option.bind_some, if_true, within_of k 20 g g2 (by omega) (by omega)]
  have j0 : 0 ≤ k % 20 := by omega
  have j1 : k % 20 < 20 := by omega
  generalize k % 20 = j at *
  have e1 : wrap64 (400 * j) = 400 * j := w64 (by omega) (by omega)
  have e2 : wrap64 (y + 400 * j) = y + 400 * j := w64 (by omega) (by omega)
  have e3 : wrap64 (146097 * j) = 146097 * j := w64 (by omega) (by omega)
  have e4 : wrap64 (daysOf y m d + 146097 * j) = daysOf y m d + 146097 * j := w64 (by omega) (by omega)
  have nr : Near (y + 400 * j) := by unfold Near at near ⊢; omega
  have hl : lenOf (y + 400 * j) m = lenOf y m := by
    unfold lenOf leapB
    rw [show (y + 400 * j) % 4 = y % 4 by omega, show (y + 400 * j) % 100 = y % 100 by omega, show (y + 400 * j) % 400 = y % 400 by omega]
  have w : Valid (y + 400 * j) m d := by obtain ⟨a, b, c, e⟩ := v; exact ⟨a, b, c, by rw [hl]; exact e⟩
  have ey : daysOf (y + 400 * j) m d = daysOf y m d + 146097 * j := by
    unfold daysOf
    split
    · rw [show (y + 400 * j - 1) / 400 = (y - 1) / 400 + j by omega, show (y + 400 * j - 1) % 400 = (y - 1) % 400 by omega]; omega
    · rw [show (y + 400 * j) / 400 = y / 400 + j by omega, show (y + 400 * j) % 400 = y % 400 by omega]; omega
  rw [e1, e2, e3]
  simp only [days_of nr w, days_of near v, weekday_of nr w, weekday_of near v, Option.bind_some, ey, e4, if_true]
  congr 1
  rw [beq_iff_eq]; omega

end Go.Proofs.Ytbdabmegbhobiaa.Pure
