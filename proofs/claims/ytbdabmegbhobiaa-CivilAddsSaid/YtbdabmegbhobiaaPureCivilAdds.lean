/- Any day, so many months and days on, is the document's, or none: the plain statement behind the row. Conditions: none. -/
import Derived.Test.YtbdabmegbhobiaaPCivx4
import Derived.Test.YtbdabmegbhobiaaPCivx2
import Derived.Test.YtbdabmegbhobiaaPCivx3
import Derived.Test.YtbdabmegbhobiaaCal
namespace Go.Proofs.Ytbdabmegbhobiaa.PCiv
open Go.RowKit Go.Proofs.YtbdabmegbhobiaaW.PrintWords Go.Proofs.YtbdabmegbhobiaaW.PrintLast
set_option linter.unusedVariables false

theorem rciv_of {n : Int} (h : -1000000000000 ≤ n) (h2 : n ≤ 1000000000000) : interlocutorref1_Civil.f n = some (civY n, civM n, civD n) := by
  have q0 : -10000000 ≤ (n + 719468) / 146097 := by omega
  have q1 : (n + 719468) / 146097 ≤ 10000000 := by omega
  have r0 : 0 ≤ (n + 719468) % 146097 := by omega
  have r1 : (n + 719468) % 146097 < 146097 := by omega
  have e1 : n + 719468 - 146097 * ((n + 719468) / 146097) = (n + 719468) % 146097 := by omega
  unfold interlocutorref1_Civil.f
  rw [w64 (n := n + 719468) (by omega) (by omega), rfloor_of _ _ (by omega) (by omega) (by omega) (by omega)]
  simp only [Option.bind_some]
  rw [w64 (n := 146097 * ((n + 719468) / 146097)) (by omega) (by omega), e1, w64 (n := (n + 719468) % 146097) (by omega) (by omega)]
  unfold civY civM civD
  generalize (n + 719468) / 146097 = q at *
  generalize (n + 719468) % 146097 = r at *
  obtain ⟨d0, d1, y0, y1⟩ := doy_bd r r0 r1
  have hY : wrap64 (Int.tdiv (wrap64 (wrap64 (wrap64 (r - wrap64 (Int.tdiv r 1460)) + wrap64 (Int.tdiv r 36524)) - wrap64 (Int.tdiv r 146096))) 365) = yoeOf r := by
    simp (disch := omega) only [w64, td]; rfl
  rw [hY]
  have hD : wrap64 (r - wrap64 (wrap64 (wrap64 (365 * yoeOf r) + wrap64 (Int.tdiv (yoeOf r) 4)) - wrap64 (Int.tdiv (yoeOf r) 100))) = doyOf r := by
    simp (disch := omega) only [w64, td]; rfl
  rw [hD]
  have hM : wrap64 (Int.tdiv (wrap64 (wrap64 (5 * doyOf r) + 2)) 153) = mpOf r := by
    simp (disch := omega) only [w64, td]; rfl
  rw [hM]
  have m0 : 0 ≤ mpOf r := by unfold mpOf; omega
  have m1 : mpOf r ≤ 11 := by unfold mpOf; omega
  unfold onY onM onD
  clear hY hD hM
  generalize mpOf r = mp at *
  generalize doyOf r = s at *
  generalize yoeOf r = k at *
  simp (disch := omega) only [w64, td]
  by_cases c : mp + 3 > 12
  · rw [if_pos c, if_pos (by omega), if_pos c, if_pos c]
    simp only [Option.some.injEq, Prod.mk.injEq, and_true]; omega
  · rw [if_neg c, if_neg (by omega), if_neg c, if_neg c]
    simp only [Option.some.injEq, Prod.mk.injEq, and_true]; omega

theorem radd_of {y m d mo da : Int} (k : Nat) (hy : Near y) (v : Valid y m d) : interlocutorref1_Add.f (k + 1) y m d mo da = civil_Add.f y m d mo da := by
  unfold interlocutorref1_Add.f
  simp only [interlocutorref1_Add.j0]
  by_cases h1 : mo < -1000000
  · rw [if_pos h1, if_pos trivial]; unfold civil_Add.f; rw [if_pos (.inl h1)]
  rw [if_neg h1]
  by_cases h2 : mo > 1000000
  · rw [if_pos h2, if_pos trivial]; unfold civil_Add.f; rw [if_pos (.inr (.inl h2))]
  rw [if_neg h2]
  by_cases h3 : da < -10000000
  · rw [if_pos h3, if_pos trivial]; unfold civil_Add.f; rw [if_pos (.inr (.inr (.inl h3)))]
  rw [if_neg h3]
  by_cases h4 : da > 10000000
  · rw [if_pos (decide_eq_true h4)]; unfold civil_Add.f; rw [if_pos (.inr (.inr (.inr h4)))]
  rw [if_neg (by simpa using h4), add_of hy v (by omega) (by omega) (by omega) (by omega)]
  obtain ⟨v1, v2, v3, v4⟩ := v
  unfold Near at hy
  have hl := len_bd y m
  simp (disch := omega) only [w64]
  rw [rfloor_of _ _ (by omega) (by omega) (by omega) (by omega)]
  simp only [Option.bind_some]
  have e1 : 12 * y + m - 1 + mo - 12 * ((12 * y + m - 1 + mo) / 12) = (12 * y + m - 1 + mo) % 12 := by omega
  have q0 : -200000 ≤ (12 * y + m - 1 + mo) / 12 := by omega
  have q1 : (12 * y + m - 1 + mo) / 12 ≤ 200000 := by omega
  have r0 : 0 ≤ (12 * y + m - 1 + mo) % 12 := by omega
  have r1 : (12 * y + m - 1 + mo) % 12 < 12 := by omega
  rw [w64 (n := 12 * ((12 * y + m - 1 + mo) / 12)) (by omega) (by omega), e1, w64 (n := (12 * y + m - 1 + mo) % 12) (by omega) (by omega), w64 (n := (12 * y + m - 1 + mo) % 12 + 1) (by omega) (by omega)]
  unfold addN
  generalize (12 * y + m - 1 + mo) / 12 = q at *
  generalize (12 * y + m - 1 + mo) % 12 = r at *
  rw [rlength_of]
  simp only [Option.bind_some]
  have hL := len_bd q (r + 1)
  have em : mn d (lenOf q (r + 1)) = if d ≤ lenOf q (r + 1) then d else lenOf q (r + 1) := by unfold mn; split <;> split <;> omega
  rw [em]
  have v' : Valid q (r + 1) (if d ≤ lenOf q (r + 1) then d else lenOf q (r + 1)) := by
    refine ⟨by omega, by omega, ?_, ?_⟩ <;> split <;> omega
  generalize (if d ≤ lenOf q (r + 1) then d else lenOf q (r + 1)) = dd at *
  have hk := days_bd q (r + 1) dd (by omega) (by omega) (by omega) (by omega) (by obtain ⟨_, _, a, b⟩ := v'; omega) (by obtain ⟨_, _, a, b⟩ := v'; omega)
  have hrd : interlocutorref1_Days.f q (r + 1) dd = some (daysOf q (r + 1) dd) := by
    exact rdays_far (by omega) (by omega) v'
  rw [hrd]
  simp only [Option.bind_some]
  rw [w64 (by omega) (by omega), rciv_of (by omega) (by omega)]
  simp only [Option.bind_some]
  generalize civY (daysOf q (r + 1) dd + da) = Y at *
  by_cases c1 : Y < 1
  · rw [if_pos c1, if_pos (.inl c1)]
  · by_cases c2 : Y > 9999
    · rw [if_neg c1, if_pos c2, if_pos (.inr c2)]
    · rw [if_neg c1, if_neg c2, if_neg (by omega)]
end Go.Proofs.Ytbdabmegbhobiaa.PCiv
namespace Go.Proofs.Ytbdabmegbhobiaa.Pure
open Go.RowKit Go.Proofs.Ytbdabmegbhobiaa.PCiv Go.Proofs.YtbdabmegbhobiaaW.PrintWords Go.Proofs.YtbdabmegbhobiaaW.PrintLast

theorem add_total {y m d : Int} (a b : Int) (hy : Near y) (v : Valid y m d) : ∃ r, civil_Add.f y m d a b = some r := by
  by_cases ho : a < -1000000 ∨ 1000000 < a ∨ b < -10000000 ∨ 10000000 < b
  · exact ⟨_, by unfold civil_Add.f; rw [if_pos ho]⟩
  · rw [add_of hy v (by omega) (by omega) (by omega) (by omega)]
    split <;> exact ⟨_, rfl⟩
theorem adds_step (k : Nat) {y m d : Int} (l : List (List Int)) (i a b : Int) (hy : Near y) (v : Valid y m d) (h0 : 0 ≤ i) (hi : i < l.length) (hl : i ≤ 100) (e : rd_L1 l i = [a, b]) :
    interlocutorlaw1_CivilAdds.l0 (k + 2) y m d l i = interlocutorlaw1_CivilAdds.l0 (k + 1) y m d l (i + 1) := by
  obtain ⟨r, hr⟩ := add_total a b hy v
  rw [interlocutorlaw1_CivilAdds.l0, if_pos hi, if_pos h0, e, if_pos (by simp), if_pos (by simp), show rd [a, b] 0 = a from rfl, show rd [a, b] 1 = b from rfl, radd_of k hy v, hr]
  simp only [Option.bind_some, bne_self_eq_false, Bool.false_eq_true, if_false, if_true]
  rw [w64 (by omega) (by omega)]

theorem CivilAdds : interlocutorlaw1_CivilAdds.Pure := by
  intro n mo da raw other hn hm hd hr ho
  obtain ⟨h, h2⟩ := wf_bd hn
  obtain ⟨y, m, d, hday, v, near, _, hy⟩ := day_of n false h h2
  obtain ⟨g, g2⟩ := wf_bd hm
  obtain ⟨f, f2⟩ := wf_bd hd
  refine ⟨9, ?_⟩
  unfold interlocutorlaw1_CivilAdds.f
  simp only [known_true, hday, Option.bind_some, if_true, within_of mo 4000 g g2 (by omega) (by omega), within_of da 40000 f f2 (by omega) (by omega), within_of mo 2000003 g g2 (by omega) (by omega), within_of da 20000003 f f2 (by omega) (by omega), within_of mo 30 g g2 (by omega) (by omega)]
  generalize wrap64 (mo % 4000 - 2000) = a1
  generalize wrap64 (da % 40000 - 20000) = b1
  generalize wrap64 (mo % 2000003 - 1000001) = a2
  generalize wrap64 (da % 20000003 - 10000001) = b2
  generalize wrap64 (mo % 30 - 15) = a3
  rw [adds_step 7 _ 0 a1 b1 near v (by omega) (by simp) (by omega) rfl, adds_step 6 _ _ a2 b2 near v (by omega) (by simp) (by omega) rfl, adds_step 5 _ _ raw other near v (by omega) (by simp) (by omega) rfl,
    adds_step 4 _ _ raw 0 near v (by omega) (by simp) (by omega) rfl, adds_step 3 _ _ 0 other near v (by omega) (by simp) (by omega) rfl, adds_step 2 _ _ a3 0 near v (by omega) (by simp) (by omega) rfl]
  rw [interlocutorlaw1_CivilAdds.l0, if_neg (by simp)]
end Go.Proofs.Ytbdabmegbhobiaa.Pure
