/- So many months on and back is the same day, where no month was too short: the plain statement behind the row. Conditions: none. -/
import Derived.Test.YtbdabmegbhobiaaPCivx6
import Derived.Test.YtbdabmegbhobiaaCal
namespace Go.Proofs.Ytbdabmegbhobiaa.Pure
open Go.RowKit Go.Proofs.Ytbdabmegbhobiaa.PCiv Go.Proofs.YtbdabmegbhobiaaW.PrintWords Go.Proofs.YtbdabmegbhobiaaW.PrintLast

theorem CivilMonths : interlocutorlaw1_CivilMonths.Pure := by
  intro n mo hn hm
  obtain ⟨h, h2⟩ := wf_bd hn
  obtain ⟨g, g2⟩ := wf_bd hm
  obtain ⟨y, m, d, hd, v, near, _, hy⟩ := day_of n false h h2
  have hy := hy rfl
  unfold interlocutorlaw1_CivilMonths.f
  simp only [known_true, hd, Option.bind_some, if_true, within_of mo 600 g g2 (by omega) (by omega)]
  have k0 : 0 ≤ mo % 600 := by omega
  have k1 : mo % 600 < 600 := by omega
  generalize mo % 600 = k at *
  rw [add_of near v (by omega) (by omega) (by omega) (by omega)]
  obtain ⟨y', m', d', ey, em, ed, v', en⟩ := addN_months (mo := k) v
  obtain ⟨c1, c2, c3⟩ := civ_days y' m' d' v'
  rw [en, c1, c2, c3]
  by_cases c : y' < 1 ∨ 9999 < y'
  · rw [if_pos c]; simp
  · rw [if_neg c]
    simp only [Option.bind_some, if_true]
    by_cases d28 : d > 28
    · rw [if_pos d28]
    · rw [if_neg d28]
      have hl := len_bd y' m'
      rw [if_pos (by omega)] at ed
      subst ed
      have near' : Near y' := by unfold Near; omega
      rw [w64 (n := -k) (by omega) (by omega), add_of near' v' (by omega) (by omega) (by omega) (by omega)]
      obtain ⟨y'', m'', d'', ey', em', ed', v'', en'⟩ := addN_months (mo := -k) v'
      obtain ⟨w1, w2, w3, w4⟩ := v
      have q1 : y'' = y := by omega
      have q2 : m'' = m := by omega
      have hl2 := len_bd y'' m''
      rw [if_pos (by omega)] at ed'
      subst ed' q1 q2
      obtain ⟨f1, f2, f3⟩ := civ_days _ _ _ v''
      rw [en', f1, f2, f3, if_neg (by omega)]
      simp only [Option.bind_some, if_true]
      simp (disch := omega) only [w64]
      congr 1
      rw [beq_iff_eq]; omega

end Go.Proofs.Ytbdabmegbhobiaa.Pure
