/- Days' numbers are in the order of the days: the plain statement behind the row. Conditions: none. -/
import Derived.Test.YtbdabmegbhobiaaPCivx6
import Derived.Test.YtbdabmegbhobiaaCal
namespace Go.Proofs.Ytbdabmegbhobiaa.Pure
open Go.RowKit Go.Proofs.Ytbdabmegbhobiaa.PCiv Go.Proofs.YtbdabmegbhobiaaW.PrintWords Go.Proofs.YtbdabmegbhobiaaW.PrintLast

theorem CivilOrder : interlocutorlaw1_CivilOrder.Pure := by
  intro n n' hn hn'
  obtain ⟨h, h2⟩ := wf_bd hn
  obtain ⟨g, g2⟩ := wf_bd hn'
  obtain ⟨y, m, d, hd, v, near, _, _⟩ := day_of n true h h2
  obtain ⟨y', m', d', hd', v', near', _, _⟩ := day_of n' true g g2
  unfold interlocutorlaw1_CivilOrder.f
  simp only [known_true, hd, hd', Option.bind_some, if_true, days_of near v, days_of near' v']
  have l1 := @days_lt y m d y' m' d' v v'
  have l2 := @days_lt y' m' d' y m d v' v
  have l3 : y = y' → m = m' → d = d' → daysOf y m d = daysOf y' m' d' := by rintro rfl rfl rfl; rfl
  generalize daysOf y m d = a at *
  generalize daysOf y' m' d' = b at *
  have e1 : decide (a < b) = decide (y < y' ∨ y = y' ∧ (m < m' ∨ m = m' ∧ d < d')) := by
    apply decide_eq_decide.mpr
    constructor
    · intro hlt
      by_cases c1 : y = y'
      · by_cases c2 : m = m'
        · by_cases c3 : d = d'
          · have := l3 c1 c2 c3; omega
          · by_cases c4 : d < d'
            · exact .inr ⟨c1, .inr ⟨c2, c4⟩⟩
            · have := l2 (.inr ⟨c1.symm, .inr ⟨c2.symm, by omega⟩⟩); omega
        · by_cases c4 : m < m'
          · exact .inr ⟨c1, .inl c4⟩
          · have := l2 (.inr ⟨c1.symm, .inl (by omega)⟩); omega
      · by_cases c4 : y < y'
        · exact .inl c4
        · have := l2 (.inl (by omega)); omega
    · exact l1
  have e2 : (a == b) = decide (y = y' ∧ m = m' ∧ d = d') := by
    rw [Bool.eq_iff_iff, beq_iff_eq, decide_eq_true_iff]
    constructor
    · intro he
      have n1 : ¬ (y < y' ∨ y = y' ∧ (m < m' ∨ m = m' ∧ d < d')) := fun hh => by have := l1 hh; omega
      have n2 : ¬ (y' < y ∨ y' = y ∧ (m' < m ∨ m' = m ∧ d' < d)) := fun hh => by have := l2 hh; omega
      omega
    · rintro ⟨q1, q2, q3⟩; exact l3 q1 q2 q3
  rw [e1, e2]
  by_cases c1 : y < y'
  · simp [c1, show ¬ y = y' by omega]
  · by_cases c2 : y = y'
    · subst c2
      by_cases c3 : m < m'
      · simp [c3, show ¬ m = m' by omega]
      · by_cases c4 : m = m'
        · subst c4
          by_cases c5 : d < d'
          · simp [c5, show ¬ d = d' by omega]
          · by_cases c6 : d = d' <;> simp [c5, c6]
        · simp [c3, c4]
    · simp [c1, c2]

end Go.Proofs.Ytbdabmegbhobiaa.Pure
