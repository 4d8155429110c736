/- A month on from its last days is the next one's last day at most: the plain statement behind the row. Conditions: none. -/
import Derived.Test.YtbdabmegbhobiaaPCivx6
import Derived.Test.YtbdabmegbhobiaaCal
namespace Go.Proofs.Ytbdabmegbhobiaa.Pure
open Go.RowKit Go.Proofs.Ytbdabmegbhobiaa.PCiv Go.Proofs.YtbdabmegbhobiaaW.PrintWords Go.Proofs.YtbdabmegbhobiaaW.PrintLast

theorem CivilEnds : interlocutorlaw1_CivilEnds.Pure := by
  intro n mo hn hm
  obtain ⟨h, h2⟩ := wf_bd hn
  obtain ⟨g, g2⟩ := wf_bd hm
  obtain ⟨y, m, d, hd, v, near, _, hy⟩ := day_of n false h h2
  have hy := hy rfl
  unfold interlocutorlaw1_CivilEnds.f
  have hl := len_bd y m
  have w : Valid y m (lenOf y m) := by obtain ⟨a, b, c, e⟩ := v; exact ⟨a, b, by omega, by omega⟩
  simp only [known_true, hd, Option.bind_some, if_true, within_of mo 100 g g2 (by omega) (by omega), rlength_of]
  have k0 : 0 ≤ mo % 100 := by omega
  have k1 : mo % 100 < 100 := by omega
  generalize mo % 100 = k at *
  rw [add_of near w (by omega) (by omega) (by omega) (by omega)]
  obtain ⟨y', m', d', ey, em, ed, v', en⟩ := addN_months (mo := k) w
  obtain ⟨c1, c2, c3⟩ := civ_days y' m' d' v'
  rw [en, c1, c2, c3]
  by_cases c : y' < 1 ∨ 9999 < y'
  · rw [if_pos c]; simp
  · rw [if_neg c]
    simp only [Option.bind_some, if_true, length_of]
    have e : d' = mn (lenOf y m) (lenOf y' m') := by rw [ed]; unfold mn; split <;> split <;> omega
    rw [if_pos e]
    congr 1
    rw [decide_eq_true_iff, ed]; split <;> omega

end Go.Proofs.Ytbdabmegbhobiaa.Pure
