/- So many days on are so many in number, and back: the plain statement behind the row. Conditions: none. -/
import Derived.Test.YtbdabmegbhobiaaPCivx6
import Derived.Test.YtbdabmegbhobiaaCal
namespace Go.Proofs.Ytbdabmegbhobiaa.Pure
open Go.RowKit Go.Proofs.Ytbdabmegbhobiaa.PCiv Go.Proofs.YtbdabmegbhobiaaW.PrintWords Go.Proofs.YtbdabmegbhobiaaW.PrintLast

theorem CivilDaysOn : interlocutorlaw1_CivilDaysOn.Pure := by
  intro n da hn hm
  obtain ⟨h, h2⟩ := wf_bd hn
  obtain ⟨g, g2⟩ := wf_bd hm
  obtain ⟨y, m, d, hd, v, near, _, hy⟩ := day_of n false h h2
  have hy := hy rfl
  have hk := days_near near v
  unfold interlocutorlaw1_CivilDaysOn.f
  simp only [known_true, hd, Option.bind_some, if_true, within_of da 100000 g g2 (by omega) (by omega)]
  have k0 : 0 ≤ da % 100000 := by omega
  have k1 : da % 100000 < 100000 := by omega
  generalize da % 100000 = k at *
  have e0 : wrap64 (k - 50000) = k - 50000 := w64 (by omega) (by omega)
  rw [e0, add_of near v (by omega) (by omega) (by omega) (by omega), addN_days v]
  obtain ⟨v', dc⟩ := days_civ (daysOf y m d + (k - 50000))
  by_cases c : civY (daysOf y m d + (k - 50000)) < 1 ∨ 9999 < civY (daysOf y m d + (k - 50000))
  · rw [if_pos c]
    have va : Valid 1 1 1 := ⟨by omega, by omega, by omega, by decide⟩
    have vb : Valid 9999 12 31 := ⟨by omega, by omega, by omega, by decide⟩
    have e3 : wrap64 (daysOf y m d + (k - 50000)) = daysOf y m d + (k - 50000) := w64 (by omega) (by omega)
    simp only [Option.bind_some, Bool.false_eq_true, if_false, rdays_of near v, rdays_of (show Near 1 by unfold Near; omega) va, rdays_of (show Near 9999 by unfold Near; omega) vb, e3]
    rcases c with c | c
    · have := days_lt v' va (.inl c)
      rw [dc] at this
      rw [if_pos this]
    · have := days_lt vb v' (.inl c)
      rw [dc] at this
      split
      · rfl
      · congr 1; rw [decide_eq_true_iff]; omega
  · rw [if_neg c]
    have near' : Near (civY (daysOf y m d + (k - 50000))) := by unfold Near; omega
    simp only [Option.bind_some, if_true]
    rw [w64 (n := -(k - 50000)) (by omega) (by omega), add_of near' v' (by omega) (by omega) (by omega) (by omega), addN_days v', dc]
    rw [show daysOf y m d + (k - 50000) + -(k - 50000) = daysOf y m d by omega]
    obtain ⟨c1, c2, c3⟩ := civ_days y m d v
    rw [c1, c2, c3, if_neg (by omega)]
    simp only [Option.bind_some, if_true, rdays_of near' v', rdays_of near v, dc]
    rw [w64 (by omega) (by omega), if_pos (by omega)]
    simp

end Go.Proofs.Ytbdabmegbhobiaa.Pure
