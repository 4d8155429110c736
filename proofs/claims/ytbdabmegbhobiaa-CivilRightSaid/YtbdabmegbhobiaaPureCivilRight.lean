/- Whether any moment may be is the document's; so is one of which one thing was turned: the plain statement behind the row. Conditions: none. -/
import Derived.Test.YtbdabmegbhobiaaPCivx8
import Derived.Test.YtbdabmegbhobiaaCal
namespace Go.Proofs.Ytbdabmegbhobiaa.Pure
open Go.RowKit Go.Proofs.Ytbdabmegbhobiaa.PCiv Go.Proofs.YtbdabmegbhobiaaW.PrintWords Go.Proofs.YtbdabmegbhobiaaW.PrintLast
set_option linter.unusedVariables false

theorem rright_of (Y M D H I S : Int) : interlocutorref1_Right.f Y M D H I S = some (rightB Y M D H I S) := by
  have hd : interlocutorref1_Day.f Y M D = some (decide (1 ≤ Y ∧ Y ≤ 9999 ∧ 1 ≤ M ∧ M ≤ 12 ∧ 1 ≤ D ∧ D ≤ lenOf Y M)) := by
    unfold interlocutorref1_Day.f
    rw [rlength_of]
    simp only [Option.bind_some, ge_iff_le]
    by_cases c1 : 1 ≤ Y
    · by_cases c2 : Y ≤ 9999
      · by_cases c3 : 1 ≤ M
        · by_cases c4 : M ≤ 12
          · by_cases c5 : 1 ≤ D
            · simp [c1, c2, c3, c4, c5]
            · simp [c1, c2, c3, c4, c5]
          · simp [c1, c2, c3, c4]
        · simp [c1, c2, c3]
      · simp [c1, c2]
    · simp [c1]
  have hc : interlocutorref1_Clock.f H I S = some (decide (0 ≤ H ∧ H ≤ 23 ∧ 0 ≤ I ∧ I ≤ 59 ∧ 0 ≤ S ∧ S ≤ 59)) := by
    unfold interlocutorref1_Clock.f
    simp only [ge_iff_le]
    by_cases c1 : 0 ≤ H
    · by_cases c2 : H ≤ 23
      · by_cases c3 : 0 ≤ I
        · by_cases c4 : I ≤ 59
          · by_cases c5 : 0 ≤ S
            · simp [c1, c2, c3, c4, c5]
            · simp [c1, c2, c3, c4, c5]
          · simp [c1, c2, c3, c4]
        · simp [c1, c2, c3]
      · simp [c1, c2]
    · simp [c1]
  unfold interlocutorref1_Right.f rightB
  rw [hd, hc]
  simp only [Option.bind_some]
  by_cases c : 1 ≤ Y ∧ Y ≤ 9999 ∧ 1 ≤ M ∧ M ≤ 12 ∧ 1 ≤ D ∧ D ≤ lenOf Y M
  · rw [if_pos (decide_eq_true c)]
    congr 1
    apply decide_eq_decide.mpr
    omega
  · rw [if_neg (by simpa using c)]
    congr 1
    rw [eq_comm, decide_eq_false_iff_not]
    omega
theorem j0_true (k : Nat) (a b c d e f a' b' c' d' e' f' : Int) : interlocutorlaw1_CivilRight.j0 (k + 1) a b c d e f a' b' c' d' e' f' = some true := by
  simp only [interlocutorlaw1_CivilRight.j0]
  have e1 : ∀ a b c d e f, civil_Right.f a b c d e f = some (rightB a b c d e f) := fun _ _ _ _ _ _ => rfl
  simp [e1, rright_of]

theorem CivilRight : ∀ (a0_0 : Int) (a0_1 : Int) (a0_2 : Int) (a0_3 : Int) (a0_4 : Int) (a0_5 : Int) (a1 : Int) (a2 : Int) (a3 : Int) (a4 : Int),
    (Lit.int .i64 a1).wf = true → (Lit.int .i64 a2).wf = true → (Lit.int .i64 a3).wf = true → (Lit.int .i64 a4).wf = true → interlocutorlaw1_CivilRight.f 1 a0_0 a0_1 a0_2 a0_3 a0_4 a0_5 a1 a2 a3 a4 = some true := by
  intro y0 m0 d0 h0 i0 s0 n t which v hn ht hw hv
  obtain ⟨h, h2⟩ := wf_bd hn
  obtain ⟨y, m, d, hday, v', near, _, hy⟩ := day_of n false h h2
  have hy := hy rfl
  obtain ⟨g, g2⟩ := wf_bd ht
  obtain ⟨f, f2⟩ := wf_bd hw
  obtain ⟨u, u2⟩ := wf_bd hv
  obtain ⟨p1, p2, p3⟩ := tdiv_bd t 24 g g2 (by omega)
  obtain ⟨q1, q2, q3⟩ := tdiv_bd t 1440 g g2 (by omega)
  unfold interlocutorlaw1_CivilRight.f
  have hr : rightB y m d (t % 24) (Int.tdiv t 24 % 60) (Int.tdiv t 1440 % 60) = true := by
    obtain ⟨a, b, c, e⟩ := v'
    unfold rightB
    rw [decide_eq_true_iff]
    omega
  have e1 : ∀ a b c d e f, civil_Right.f a b c d e f = some (rightB a b c d e f) := fun _ _ _ _ _ _ => rfl
  simp only [known_true, hday, Option.bind_some, if_true, p3, q3, within_of t 24 g g2 (by omega) (by omega), within_of _ 60 p1 p2 (by omega) (by omega), within_of _ 60 q1 q2 (by omega) (by omega), e1, hr, within_of which 6 f f2 (by omega) (by omega)]
  simp only [within_of v 5 u u2 (by omega) (by omega), within_of v 6 u u2 (by omega) (by omega), within_of v 8 u u2 (by omega) (by omega), Option.bind_some, j0_true 0, List.length_cons, List.length_nil]
  have k5 : 0 ≤ v % 5 ∧ v % 5 < 5 := by omega
  have k6 : 0 ≤ v % 6 ∧ v % 6 < 6 := by omega
  have k8 : 0 ≤ v % 8 ∧ v % 8 < 8 := by omega
  have w6 : 0 ≤ which % 6 ∧ which % 6 < 6 := by omega
  simp [k5, k6, k8]
end Go.Proofs.Ytbdabmegbhobiaa.Pure
