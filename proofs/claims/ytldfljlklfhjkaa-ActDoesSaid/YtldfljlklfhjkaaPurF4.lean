/- What act makes and what the document makes, of children that are told: days by the one that it is. Conditions: as each states. -/
import Derived.Test.YtldfljlklfhjkaaPurF3
namespace Go.Proofs.Ytldfljlklfhjkaa.PE
open Go.RowKit Go.Proofs.YtldfljlklfhjkaaW.PrintWords Go.Proofs.YtldfljlklfhjkaaW.PrintLast Go.Proofs.YtldfljlklfhjkaaW.PrintMore
set_option linter.unusedVariables false
set_option linter.unusedSimpArgs false
namespace Ev
theorem doy_last (r : Int) (h0 : 0 ≤ r) (h1 : r < 146097) (h : doyOf r = 365) : (yoeOf r + 1) % 4 = 0 ∧ ((yoeOf r + 1) % 100 ≠ 0 ∨ (yoeOf r + 1) % 400 = 0) := by
  unfold doyOf at h
  unfold yoeOf at h ⊢
  generalize hf : r / 36524 = f at *
  generalize hg : r / 146096 = g at *
  generalize he : r / 1460 = e at *
  generalize hb : (r - e + f - g) / 365 = b at *
  generalize hc : b / 4 = c at *
  generalize hd : b / 100 = d at *
  have hj : b = 4 * c ∨ b = 4 * c + 1 ∨ b = 4 * c + 2 ∨ b = 4 * c + 3 := by omega
  have hbd : 0 ≤ b ∧ b ≤ 399 := by omega
  have : f = 0 ∨ f = 1 ∨ f = 2 ∨ f = 3 ∨ f = 4 := by omega
  rcases this with rfl | rfl | rfl | rfl | rfl
  · obtain rfl : g = 0 := by omega
    obtain rfl : d = 0 := by omega
    rcases hj with hj | hj | hj | hj <;> omega
  · obtain rfl : g = 0 := by omega
    obtain rfl : d = 1 := by omega
    rcases hj with hj | hj | hj | hj <;> omega
  · obtain rfl : g = 0 := by omega
    obtain rfl : d = 2 := by omega
    rcases hj with hj | hj | hj | hj <;> omega
  · obtain rfl : g = 0 := by omega
    obtain rfl : d = 3 := by omega
    rcases hj with hj | hj | hj | hj <;> omega
  · obtain rfl : g = 1 := by omega
    obtain rfl : d = 3 := by omega
    rcases hj with hj | hj | hj | hj <;> omega
theorem days_civ (n : Int) : Valid (civY n) (civM n) (civD n) ∧ daysOf (civY n) (civM n) (civD n) = n := by
  have hq : n + 719468 = 146097 * ((n + 719468) / 146097) + (n + 719468) % 146097 := by omega
  have r0 : 0 ≤ (n + 719468) % 146097 := by omega
  have r1 : (n + 719468) % 146097 < 146097 := by omega
  unfold civY civM civD
  generalize (n + 719468) / 146097 = e at *
  generalize (n + 719468) % 146097 = r at *
  obtain ⟨d0, d1, y0, y1⟩ := doy_bd r r0 r1
  have hl := doy_last r r0 r1
  have hd : r = 365 * yoeOf r + yoeOf r / 4 - yoeOf r / 100 + doyOf r := by unfold doyOf; omega
  unfold onY onM onD
  have hm : mpOf r = (5 * doyOf r + 2) / 153 := rfl
  generalize mpOf r = mp at *
  generalize doyOf r = s at *
  generalize yoeOf r = k at *
  by_cases c : mp + 3 > 12
  · rw [if_pos c, if_pos c]
    refine ⟨⟨by omega, by omega, by omega, ?_⟩, ?_⟩
    · rcases (show mp = 10 ∨ mp = 11 by omega) with rfl | rfl
      · rw [len_odd _ _ (by omega)]; omega
      · show _ ≤ lenOf _ 2
        rcases len_two (k + e * 400 + 1) with ⟨_, el⟩ | ⟨l, el⟩ <;> rw [el]
        · omega
        · have hnl : ¬ ((k + e * 400 + 1) % 4 = 0 ∧ ((k + e * 400 + 1) % 100 ≠ 0 ∨ (k + e * 400 + 1) % 400 = 0)) := by
            rw [← leapB_iff, l]; simp
          have : s ≠ 365 := by intro hs; have := hl hs; omega
          omega
    · unfold daysOf; rw [if_pos (by omega), show (k + e * 400 + 1 - 1) / 400 = e by omega, show (k + e * 400 + 1 - 1) % 400 = k by omega, show mp + 3 - 12 + 9 = mp by omega]; omega
  · rw [if_neg c, if_neg c]
    refine ⟨⟨by omega, by omega, by omega, ?_⟩, ?_⟩
    · rcases (show (mp = 0 ∨ mp = 2 ∨ mp = 4 ∨ mp = 5 ∨ mp = 7 ∨ mp = 9) ∨ (mp = 1 ∨ mp = 3 ∨ mp = 6 ∨ mp = 8) by omega) with hm' | hm'
      · rw [len_odd _ _ (by omega)]; omega
      · rw [len_even _ _ (by omega)]; omega
    · unfold daysOf; rw [if_neg (by omega), show (k + e * 400) / 400 = e by omega, show (k + e * 400) % 400 = k by omega, show mp + 3 - 3 = mp by omega]; omega
/-- A day in the bounds that all calls here keep. -/
def Near (y : Int) : Prop := -100000 ≤ y ∧ y ≤ 100000
theorem days_of {y m d : Int} (h : Near y) (v : Valid y m d) : civil_Days.f y m d = some (daysOf y m d) := by
  obtain ⟨h1, h2, h3, h4⟩ := v; have := len_bd y m; unfold Near at h
  unfold civil_Days.f; exact if_pos ⟨by omega, by omega, by omega, by omega, by omega, by omega⟩
theorem dbd {y m d : Int} (b1 : -1000000 ≤ y) (b2 : y ≤ 1000000) (b3 : 1 ≤ m) (b4 : m ≤ 12) (b5 : -1000000 ≤ d) (b6 : d ≤ 1000000) : -400000000 ≤ daysOf y m d ∧ daysOf y m d ≤ 400000000 := days_bd y m d b1 b2 b3 b4 b5 b6
theorem days_near {y m d : Int} (h : Near y) (v : Valid y m d) : -400000000 ≤ daysOf y m d ∧ daysOf y m d ≤ 400000000 := by
  obtain ⟨h1, h2, h3, h4⟩ := v; have := len_bd y m; unfold Near at h
  exact dbd (by omega) (by omega) (by omega) (by omega) (by omega) (by omega)
theorem add_of {y m d mo da : Int} (hy : Near y) (v : Valid y m d) (h1 : -1000000 ≤ mo) (h2 : mo ≤ 1000000) (h3 : -10000000 ≤ da) (h4 : da ≤ 10000000) :
    civil_Add.f y m d mo da = if civY (addN y m d mo da) < 1 ∨ 9999 < civY (addN y m d mo da) then some (0, 0, 0, false) else some (civY (addN y m d mo da), civM (addN y m d mo da), civD (addN y m d mo da), true) := by
  obtain ⟨v1, v2, v3, v4⟩ := v
  have := len_bd y m
  unfold Near at hy
  unfold civil_Add.f
  rw [if_neg (by omega), if_pos (by omega)]
theorem addN_days {y m d da : Int} (v : Valid y m d) : addN y m d 0 da = daysOf y m d + da := by
  obtain ⟨v1, v2, v3, v4⟩ := v
  unfold addN
  have e1 : (12 * y + m - 1 + 0) / 12 = y := by omega
  have e2 : (12 * y + m - 1 + 0) % 12 + 1 = m := by omega
  rw [e1, e2, if_pos v4]; rfl
theorem rciv_of {n : Int} (h : -1000000000000 ≤ n) (h2 : n ≤ 1000000000000) : ref1_Civil.F n = some (civY n, civM n, civD n) := by
  have q0 : -10000000 ≤ (n + 719468) / 146097 := by omega
  have q1 : (n + 719468) / 146097 ≤ 10000000 := by omega
  have r0 : 0 ≤ (n + 719468) % 146097 := by omega
  have r1 : (n + 719468) % 146097 < 146097 := by omega
  have e1 : n + 719468 - 146097 * ((n + 719468) / 146097) = (n + 719468) % 146097 := by omega
  unfold ref1_Civil.F ref1_Civil.t
  simp only [interlocutorref1_floor.F]
  rw [w64 (n := n + 719468) (by omega) (by omega), rfloor_of _ _ (by omega) (by omega) (by omega) (by omega)]
  simp only [Option.bind_some]
  rw [w64 (n := 146097 * ((n + 719468) / 146097)) (by omega) (by omega), e1, w64 (n := (n + 719468) % 146097) (by omega) (by omega)]
  unfold civY civM civD
  generalize (n + 719468) / 146097 = q at *
  generalize (n + 719468) % 146097 = r at *
  obtain ⟨d0, d1, y0, y1⟩ := doy_bd r r0 r1
  have hY : wrap64 (Int.tdiv (wrap64 (wrap64 (wrap64 (r - wrap64 (Int.tdiv r 1460)) + wrap64 (Int.tdiv r 36524)) - wrap64 (Int.tdiv r 146096))) 365) = yoeOf r := by
    simp (disch := omega) only [w64, td]; rfl
  rw [hY]
  have hD : wrap64 (r - wrap64 (wrap64 (wrap64 (365 * yoeOf r) + wrap64 (Int.tdiv (yoeOf r) 4)) - wrap64 (Int.tdiv (yoeOf r) 100))) = doyOf r := by
    simp (disch := omega) only [w64, td]; rfl
  rw [hD]
  have hM : wrap64 (Int.tdiv (wrap64 (wrap64 (5 * doyOf r) + 2)) 153) = mpOf r := by
    simp (disch := omega) only [w64, td]; rfl
  rw [hM]
  have m0 : 0 ≤ mpOf r := by unfold mpOf; omega
  have m1 : mpOf r ≤ 11 := by unfold mpOf; omega
  unfold onY onM onD
  clear hY hD hM
  generalize mpOf r = mp at *
  generalize doyOf r = s at *
  generalize yoeOf r = k at *
  simp (disch := omega) only [w64, td]
  by_cases c : mp + 3 > 12
  · rw [if_pos c, if_pos (by omega), if_pos c, if_pos c]
    simp only [Option.some.injEq, Prod.mk.injEq, and_true]; omega
  · rw [if_neg c, if_neg (by omega), if_neg c, if_neg c]
    simp only [Option.some.injEq, Prod.mk.injEq, and_true]; omega
theorem rdays_of {y m d : Int} (h : Near y) (v : Valid y m d) : interlocutorref1_Days.F (y, m, d) = some (daysOf y m d) := by
  unfold Near at h; exact rdays_far (by omega) (by omega) v
theorem weekday_of {y m d : Int} (h : Near y) (v : Valid y m d) : civil_Weekday.F (y, m, d) = some ((daysOf y m d + 3) % 7) := by
  have := days_near h v
  show civil_Weekday.f y m d = _
  unfold civil_Weekday.f
  rw [days_of h v]; simp only [Option.bind_some]
  rw [w64 (by omega) (by omega), civil_floor_of _ _ (by omega) (by omega) (by omega) (by omega)]; rfl
theorem civ_near {n : Int} (h : -1000000000 ≤ n) (h2 : n ≤ 1000000000) : -5000000 ≤ civY n ∧ civY n ≤ 5000000 := by
  have r0 : 0 ≤ (n + 719468) % 146097 := by omega
  have r1 : (n + 719468) % 146097 < 146097 := by omega
  have := doy_bd _ r0 r1
  unfold civY onY
  split <;> omega
theorem radd_of {y m d mo da : Int} (hy : Near y) (v : Valid y m d) : ref1_Add.F (y, m, d, mo, da) = civil_Add.f y m d mo da := by
  unfold ref1_Add.F ref1_Add.t
  simp only
  by_cases h1 : mo < -1000000
  · rw [if_pos h1]; unfold civil_Add.f; rw [if_pos (.inl h1)]
  rw [if_neg h1]
  by_cases h2 : mo > 1000000
  · rw [if_pos h2]; unfold civil_Add.f; rw [if_pos (.inr (.inl h2))]
  rw [if_neg h2]
  by_cases h3 : da < -10000000
  · rw [if_pos h3]; unfold civil_Add.f; rw [if_pos (.inr (.inr (.inl h3)))]
  rw [if_neg h3]
  by_cases h4 : da > 10000000
  · rw [if_pos h4]; unfold civil_Add.f; rw [if_pos (.inr (.inr (.inr h4)))]
  rw [if_neg h4, add_of hy v (by omega) (by omega) (by omega) (by omega)]
  obtain ⟨v1, v2, v3, v4⟩ := v
  unfold Near at hy
  have hl := len_bd y m
  have e0 : wrap64 (wrap64 (wrap64 (wrap64 (12 * y) + m) - 1) + mo) = 12 * y + m - 1 + mo := by simp (disch := omega) only [w64]
  have e1 : 12 * y + m - 1 + mo - 12 * ((12 * y + m - 1 + mo) / 12) = (12 * y + m - 1 + mo) % 12 := by omega
  have q0 : -200000 ≤ (12 * y + m - 1 + mo) / 12 := by omega
  have q1 : (12 * y + m - 1 + mo) / 12 ≤ 200000 := by omega
  have r0 : 0 ≤ (12 * y + m - 1 + mo) % 12 := by omega
  have r1 : (12 * y + m - 1 + mo) % 12 < 12 := by omega
  have ef : interlocutorref1_floor.F (12 * y + m - 1 + mo, 12) = some ((12 * y + m - 1 + mo) / 12) := rfloor_of _ _ (by omega) (by omega) (by omega) (by omega)
  simp only [e0, ef, Option.bind_some]
  rw [w64 (n := 12 * ((12 * y + m - 1 + mo) / 12)) (by omega) (by omega), e1, w64 (n := (12 * y + m - 1 + mo) % 12) (by omega) (by omega), w64 (n := (12 * y + m - 1 + mo) % 12 + 1) (by omega) (by omega)]
  unfold addN
  generalize (12 * y + m - 1 + mo) / 12 = q at *
  generalize (12 * y + m - 1 + mo) % 12 = r at *
  rw [show interlocutorref1_Length.F (q, r + 1) = some (lenOf q (r + 1)) from rlength_of q (r + 1)]
  simp only [Option.bind_some]
  have hL := len_bd q (r + 1)
  have fin : ∀ dd : Int, Valid q (r + 1) dd → (interlocutorref1_Days.F (q, r + 1, dd)).bind (fun t10 => (ref1_Civil.F (wrap64 (t10 + da))).bind fun t11 => if t11.1 < 1 then some ((0, 0, 0, false) : Int × Int × Int × Bool) else if t11.1 > 9999 then some (0, 0, 0, false) else some (t11.1, t11.2.1, t11.2.2, true)) = if civY (daysOf q (r + 1) dd + da) < 1 ∨ 9999 < civY (daysOf q (r + 1) dd + da) then some (0, 0, 0, false) else some (civY (daysOf q (r + 1) dd + da), civM (daysOf q (r + 1) dd + da), civD (daysOf q (r + 1) dd + da), true) := by
    intro dd v'
    have hk : -400000000 ≤ daysOf q (r + 1) dd ∧ daysOf q (r + 1) dd ≤ 400000000 := by
      obtain ⟨a1, a2, a3, a4⟩ := v'
      exact dbd (by omega) (by omega) (by omega) (by omega) (by omega) (by omega)
    rw [show interlocutorref1_Days.F (q, r + 1, dd) = some (daysOf q (r + 1) dd) from rdays_far (by omega) (by omega) v']
    simp only [Option.bind_some]
    rw [w64 (by omega) (by omega), rciv_of (by omega) (by omega)]
    simp only [Option.bind_some]
    generalize civY (daysOf q (r + 1) dd + da) = Y at *
    by_cases c1 : Y < 1
    · rw [if_pos c1, if_pos (.inl c1)]
    · by_cases c2 : Y > 9999
      · rw [if_neg c1, if_pos c2, if_pos (.inr c2)]
      · rw [if_neg c1, if_neg c2, if_neg (by omega)]
  by_cases hm : lenOf q (r + 1) < d
  · rw [if_pos hm, if_neg (show ¬ d ≤ lenOf q (r + 1) by omega)]
    exact fin _ ⟨by omega, by omega, by omega, by omega⟩
  · rw [if_neg hm, if_pos (show d ≤ lenOf q (r + 1) by omega)]
    exact fin _ ⟨by omega, by omega, by omega, by omega⟩
theorem add_total {y m d : Int} (a b : Int) (hy : Near y) (v : Valid y m d) : ∃ r, civil_Add.f y m d a b = some r := by
  by_cases ho : a < -1000000 ∨ 1000000 < a ∨ b < -10000000 ∨ 10000000 < b
  · exact ⟨_, by unfold civil_Add.f; rw [if_pos ho]⟩
  · rw [add_of hy v (by omega) (by omega) (by omega) (by omega)]
    split <;> exact ⟨_, rfl⟩
end Ev
end Go.Proofs.Ytldfljlklfhjkaa.PE
