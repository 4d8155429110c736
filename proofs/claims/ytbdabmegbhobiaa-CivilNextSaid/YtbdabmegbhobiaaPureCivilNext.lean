/- Day by day numbers rise by one and weekdays go round: the plain statement behind the row. Conditions: none. -/
import Derived.Test.YtbdabmegbhobiaaPCivx2
import Derived.Test.YtbdabmegbhobiaaCal
namespace Go.Proofs.Ytbdabmegbhobiaa.Pure
open Go.RowKit Go.Proofs.Ytbdabmegbhobiaa.PCiv Go.Proofs.YtbdabmegbhobiaaW.PrintWords Go.Proofs.YtbdabmegbhobiaaW.PrintLast

theorem CivilNext : interlocutorlaw1_CivilNext.Pure := by
  intro n hn
  obtain ⟨h, h2⟩ := wf_bd hn
  obtain ⟨y, m, d, hd, v, near, hy, _⟩ := day_of n true h h2
  have hk := days_near near v
  have hy := hy rfl
  have v' := v
  obtain ⟨v1, v2, v3, v4⟩ := v'
  have hl := len_bd y m
  refine ⟨1, ?_⟩
  unfold interlocutorlaw1_CivilNext.f
  simp only [known_true, hd, Option.bind_some, if_true]
  by_cases c : y > 19990
  · rw [if_pos c]
  · rw [if_neg c]
    simp only [days_of near v, length_of, Option.bind_some]
    have e1 : wrap64 (d + 1) = d + 1 := w64 (by omega) (by omega)
    have e2 : wrap64 (m + 1) = m + 1 := w64 (by omega) (by omega)
    have e3 : wrap64 (y + 1) = y + 1 := w64 (by omega) (by omega)
    have e4 : wrap64 (daysOf y m d + 1) = daysOf y m d + 1 := w64 (by omega) (by omega)
    have e5 : wrap64 ((daysOf y m d + 3) % 7 + 1) = (daysOf y m d + 3) % 7 + 1 := w64 (by omega) (by omega)
    have e6 : Int.tmod ((daysOf y m d + 3) % 7 + 1) 7 = (daysOf y m d + 1 + 3) % 7 := by rw [tm (by omega)]; omega
    rw [e1, e2]
    by_cases cd : d + 1 > lenOf y m
    · rw [if_pos cd]
      simp only [interlocutorlaw1_CivilNext.j0]
      have hdl : d = lenOf y m := by omega
      by_cases cm : m + 1 > 12
      · obtain rfl : m = 12 := by omega
        have w : Valid (y + 1) 1 1 := ⟨by omega, by omega, by omega, by have := len_bd (y + 1) 1; omega⟩
        have nr : Near (y + 1) := by unfold Near at near ⊢; omega
        have ey : daysOf (y + 1) 1 1 = daysOf y 12 d + 1 := by
          rw [year_next, hdl, len_odd y 12 (by omega)]
          have := days_add y 12 1 30
          rw [show (1 : Int) + 30 = 31 by omega] at this
          omega
        rw [if_pos cm, e3]
        simp only [days_of nr w, weekday_of nr w, weekday_of near v, Option.bind_some, ey, e4, e5, e6, if_true, beq_self_eq_true]
      · have w : Valid y (m + 1) 1 := ⟨by omega, by omega, by omega, by have := len_bd y (m + 1); omega⟩
        have ey : daysOf y (m + 1) 1 = daysOf y m d + 1 := by
          rw [month_next (by omega) (by omega), ← hdl]
          have := days_add y m 1 (d - 1)
          rw [show 1 + (d - 1) = d by omega] at this
          omega
        rw [if_neg cm]
        simp only [days_of near w, weekday_of near w, weekday_of near v, Option.bind_some, ey, e4, e5, e6, if_true, beq_self_eq_true]
    · rw [if_neg cd]
      simp only [interlocutorlaw1_CivilNext.j0]
      have w : Valid y m (d + 1) := ⟨by omega, by omega, by omega, by omega⟩
      have ey : daysOf y m (d + 1) = daysOf y m d + 1 := days_add y m d 1
      rw [if_neg (by omega)]
      simp only [days_of near w, weekday_of near w, weekday_of near v, Option.bind_some, ey, e4, e5, e6, if_true, beq_self_eq_true]

end Go.Proofs.Ytbdabmegbhobiaa.Pure
