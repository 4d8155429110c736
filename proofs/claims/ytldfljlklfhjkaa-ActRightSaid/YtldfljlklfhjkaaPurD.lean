/- The calendar: what the document's Days are, and that they go as the days go. Conditions: as each states. -/
import Derived.Test.YtldfljlklfhjkaaPEt4
namespace Go.Proofs.Ytldfljlklfhjkaa.PE
open Go.RowKit Go.Proofs.YtldfljlklfhjkaaW.PrintWords Go.Proofs.YtldfljlklfhjkaaW.PrintLast Go.Proofs.YtldfljlklfhjkaaW.PrintMore
set_option linter.unusedVariables false
set_option linter.unusedSimpArgs false
namespace Ev
/-- Days, of numbers in bounds. -/
def daysOf (y m d : Int) : Int :=
  if m ≤ 2 then (y - 1) / 400 * 146097 + (y - 1) % 400 * 365 + (y - 1) % 400 / 4 - (y - 1) % 400 / 100 + (153 * (m + 9) + 2) / 5 + d - 719469
  else y / 400 * 146097 + y % 400 * 365 + y % 400 / 4 - y % 400 / 100 + (153 * (m - 3) + 2) / 5 + d - 719469
theorem leapB_iff (y : Int) : leapB y = true ↔ y % 4 = 0 ∧ (y % 100 ≠ 0 ∨ y % 400 = 0) := by
  unfold leapB; simp
/-- A day of the calendar. -/
def Valid (y m d : Int) : Prop := 1 ≤ m ∧ m ≤ 12 ∧ 1 ≤ d ∧ d ≤ lenOf y m
theorem len_feb (y : Int) : lenOf y 2 = if leapB y = true then 29 else 28 := by simp [lenOf]
theorem len_two (y : Int) : (leapB y = true ∧ lenOf y 2 = 29) ∨ (leapB y = false ∧ lenOf y 2 = 28) := by
  cases h : leapB y <;> simp [len_feb, h]
theorem len_odd (y m : Int) (h : m = 1 ∨ m = 3 ∨ m = 5 ∨ m = 7 ∨ m = 8 ∨ m = 10 ∨ m = 12) : lenOf y m = 31 := by
  unfold lenOf; rw [if_neg (by omega), if_neg (by omega)]
theorem len_even (y m : Int) (h : m = 4 ∨ m = 6 ∨ m = 9 ∨ m = 11) : lenOf y m = 30 := by
  unfold lenOf; rw [if_neg (by omega), if_pos (by omega)]
theorem w64 {n : Int} (h : -9223372036854775808 ≤ n) (h2 : n ≤ 9223372036854775807) : wrap64 n = n := by unfold wrap64; omega
theorem rleap_of (y : Int) : interlocutorref1_Leap.f y = some (leapB y) := by
  unfold interlocutorref1_Leap.f leapB
  simp only [tmod_zero]
  have e : ∀ b : Int, ((Int.tmod y b) == 0) = (y % b == 0) := fun b => by rw [Bool.eq_iff_iff, beq_iff_eq, beq_iff_eq, tmod_zero]
  simp only [e]
  by_cases h4 : y % 4 = 0
  · by_cases h1 : y % 100 = 0
    · simp [h4, h1]
    · simp [h4, h1]
  · have h6 : (y % 4 == 0) = false := beq_eq_false_iff_ne.mpr h4
    rw [if_neg h4, h6]; rfl
theorem rlength_of (y m : Int) : interlocutorref1_Length.f y m = some (lenOf y m) := by
  rw [← length_of]
  unfold interlocutorref1_Length.f civil_Length.f
  rw [leap_of, rleap_of]
theorem rfloor_of (a b : Int) (ha : -4611686018427387904 ≤ a) (ha2 : a ≤ 4611686018427387904) (hb : 2 ≤ b) (hb2 : b ≤ 1000000) : interlocutorref1_floor.f a b = some (a / b) := by
  unfold interlocutorref1_floor.f
  rw [if_neg (by omega)]
  have e1 := Int.mul_tdiv_add_tmod a b
  have e2 := Int.mul_ediv_add_emod a b
  have h0 := Int.emod_nonneg a (show b ≠ 0 by omega)
  have h1 := Int.emod_lt_of_pos a (show 0 < b by omega)
  have ht : Int.tmod a b = if 0 ≤ a ∨ b ∣ a then a % b else a % b - b := by
    rw [Int.tmod_eq_emod]; split <;> simp; omega
  have hd : (Int.tdiv a b).natAbs ≤ a.natAbs := by rw [Int.natAbs_tdiv]; exact Nat.div_le_self _ _
  have key : ∀ t : Int, b * t + Int.tmod a b = a → (Int.tmod a b < 0 → t - 1 = a / b) ∧ (¬ Int.tmod a b < 0 → t = a / b) := by
    intro t ht0
    by_cases c : 0 ≤ a ∨ b ∣ a
    · rw [if_pos c] at ht
      refine ⟨fun h => by omega, fun _ => ?_⟩
      have : b * t = b * (a / b) := by omega
      exact Int.eq_of_mul_eq_mul_left (by omega) this
    · rw [if_neg c] at ht
      refine ⟨fun h => ?_, fun h => by omega⟩
      have : b * (t - 1) = b * (a / b) := by rw [Int.mul_sub, Int.mul_one]; omega
      exact Int.eq_of_mul_eq_mul_left (by omega) this
  obtain ⟨k1, k2⟩ := key _ e1
  by_cases c : Int.tmod a b < 0
  · rw [if_pos c, w64 (n := Int.tdiv a b) (by omega) (by omega), w64 (by omega) (by omega), k1 c]
  · rw [if_neg c, w64 (by omega) (by omega), k2 c]
theorem td {a b : Int} (h : 0 ≤ a) : Int.tdiv a b = a / b := Int.tdiv_eq_ediv_of_nonneg h
theorem tm {a b : Int} (h : 0 ≤ a) : Int.tmod a b = a % b := Int.tmod_eq_emod_of_nonneg h
theorem rdays_far {y m d : Int} (hn1 : -1000000 ≤ y) (hn2 : y ≤ 1000000) (v : Valid y m d) : interlocutorref1_Days.f y m d = some (daysOf y m d) := by
  obtain ⟨h1, h2, h3, h4⟩ := v; have := len_bd y m
  unfold interlocutorref1_Days.f daysOf
  by_cases c : m ≤ 2
  · rw [if_pos c, if_pos c, w64 (n := y - 1) (by omega) (by omega), rfloor_of _ _ (by omega) (by omega) (by omega) (by omega)]
    simp only [Option.bind_some]
    have e1 : (y - 1) - 400 * ((y - 1) / 400) = (y - 1) % 400 := by omega
    have e2 : (m + 9) % 12 = m + 9 := by omega
    simp (disch := omega) only [w64, td, tm, e1, e2]
    congr 1
    omega
  · rw [if_neg c, if_neg c, rfloor_of _ _ (by omega) (by omega) (by omega) (by omega)]
    simp only [Option.bind_some]
    have e1 : y - 400 * (y / 400) = y % 400 := by omega
    have e2 : (m + 9) % 12 = m - 3 := by omega
    simp (disch := omega) only [w64, td, tm, e1, e2]
    congr 1
    omega
theorem month_next {y m : Int} (h1 : 1 ≤ m) (h2 : m ≤ 11) (d : Int) : daysOf y (m + 1) d = daysOf y m d + lenOf y m := by
  unfold daysOf
  rcases (show m = 1 ∨ m = 2 ∨ (m = 3 ∨ m = 5 ∨ m = 7 ∨ m = 8 ∨ m = 10) ∨ (m = 4 ∨ m = 6 ∨ m = 9 ∨ m = 11) by omega) with rfl | rfl | hm | hm
  · rw [if_pos (by omega), if_pos (by omega), len_odd _ _ (by omega)]; omega
  · rw [if_neg (by omega), if_pos (by omega)]
    rcases len_two y with ⟨l, e⟩ | ⟨l, e⟩ <;> rw [e]
    · have hl := (leapB_iff y).mp l
      have e1 : y / 400 = (y - 1) / 400 + (if y % 400 = 0 then 1 else 0) := by split <;> omega
      by_cases c : y % 400 = 0
      · rw [if_pos c] at e1
        have e2 : (y - 1) % 400 = 399 := by omega
        rw [e1, e2, c]; omega
      · rw [if_neg c] at e1
        have e2 : (y - 1) % 400 = y % 400 - 1 := by omega
        have e3 : (y % 400 - 1) / 4 = y % 400 / 4 - 1 := by omega
        have e4 : (y % 400 - 1) / 100 = y % 400 / 100 := by omega
        rw [e1, e2, e3, e4]; omega
    · have hl : ¬ (y % 4 = 0 ∧ (y % 100 ≠ 0 ∨ y % 400 = 0)) := by rw [← leapB_iff, l]; simp
      have c : y % 400 ≠ 0 := by omega
      have e1 : y / 400 = (y - 1) / 400 := by omega
      have e2 : (y - 1) % 400 = y % 400 - 1 := by omega
      by_cases c4 : y % 4 = 0
      · have e3 : (y % 400 - 1) / 4 = y % 400 / 4 - 1 := by omega
        have e4 : (y % 400 - 1) / 100 = y % 400 / 100 - 1 := by omega
        rw [e1, e2, e3, e4]; omega
      · have e3 : (y % 400 - 1) / 4 = y % 400 / 4 := by omega
        have e4 : (y % 400 - 1) / 100 = y % 400 / 100 := by omega
        rw [e1, e2, e3, e4]; omega
  · rw [if_neg (by omega), if_neg (by omega), len_odd _ _ (by omega)]; rcases hm with rfl | rfl | rfl | rfl | rfl <;> omega
  · rw [if_neg (by omega), if_neg (by omega), len_even _ _ (by omega)]; rcases hm with rfl | rfl | rfl | rfl <;> omega
theorem year_next (y d : Int) : daysOf (y + 1) 1 d = daysOf y 12 d + 31 := by
  unfold daysOf
  rw [if_pos (by omega), if_neg (by omega), show y + 1 - 1 = y by omega]; omega
theorem days_add (y m d k : Int) : daysOf y m (d + k) = daysOf y m d + k := by
  unfold daysOf; split <;> omega
/-- The first day of a year's month, counted on. -/
theorem months_on (y : Int) : ∀ (j : Nat) (m : Int), 1 ≤ m → m + j ≤ 12 → daysOf y m 1 + 28 * j ≤ daysOf y (m + j) 1
  | 0, m, _, _ => by simp
  | j + 1, m, h1, h2 => by
    have ih := months_on y j m h1 (by omega)
    have e := month_next (y := y) (m := m + j) (by omega) (by omega) 1
    have := len_bd y (m + j)
    rw [show m + ((j + 1 : Nat) : Int) = m + j + 1 by omega]
    omega
theorem years_on : ∀ (j : Nat) (y : Int), daysOf y 1 1 + 339 * j ≤ daysOf (y + j) 1 1
  | 0, y => by simp
  | j + 1, y => by
    have ih := years_on j y
    have e := year_next (y + j) 1
    have h := months_on (y + j) 11 1 (by omega) (by omega)
    rw [show y + ((j + 1 : Nat) : Int) = y + j + 1 by omega]
    have e2 : (1 : Int) + (11 : Nat) = 12 := by omega
    rw [e2] at h
    omega
theorem days_in_month {y m d : Int} (v : Valid y m d) : daysOf y m 1 ≤ daysOf y m d ∧ daysOf y m d < daysOf y m 1 + lenOf y m := by
  obtain ⟨_, _, h3, h4⟩ := v
  have := days_add y m 1 (d - 1)
  rw [show 1 + (d - 1) = d by omega] at this
  omega
theorem days_in_year {y m d : Int} (v : Valid y m d) : daysOf y 1 1 ≤ daysOf y m d ∧ daysOf y m d < daysOf (y + 1) 1 1 := by
  have h := days_in_month v
  obtain ⟨h1, h2, h3, h4⟩ := v
  have a := months_on y (m - 1).toNat 1 (by omega) (by omega)
  have b := months_on y (12 - m).toNat m (by omega) (by omega)
  have e := year_next y 1
  rw [show 1 + ((m - 1).toNat : Int) = m by omega] at a
  rw [show m + ((12 - m).toNat : Int) = 12 by omega] at b
  by_cases c : m = 12
  · subst c
    rw [len_odd y 12 (by omega)] at h
    omega
  · have b2 := months_on y (11 - m).toNat (m + 1) (by omega) (by omega)
    rw [show m + 1 + ((11 - m).toNat : Int) = 12 by omega] at b2
    have e2 := month_next (y := y) (m := m) (by omega) (by omega) 1
    omega
theorem days_lt {y m d y' m' d' : Int} (v : Valid y m d) (v' : Valid y' m' d') (h : y < y' ∨ y = y' ∧ (m < m' ∨ m = m' ∧ d < d')) : daysOf y m d < daysOf y' m' d' := by
  rcases h with h | ⟨rfl, h | ⟨rfl, h⟩⟩
  · have a := days_in_year v
    have b := days_in_year v'
    have c := years_on (y' - (y + 1)).toNat (y + 1)
    rw [show y + 1 + ((y' - (y + 1)).toNat : Int) = y' by omega] at c
    omega
  · have a := days_in_month v
    have b := days_in_month v'
    obtain ⟨h1, h2, h3, h4⟩ := v
    obtain ⟨h1', h2', h3', h4'⟩ := v'
    have e2 := month_next (y := y) (m := m) (by omega) (by omega) 1
    have c := months_on y (m' - (m + 1)).toNat (m + 1) (by omega) (by omega)
    rw [show m + 1 + ((m' - (m + 1)).toNat : Int) = m' by omega] at c
    omega
  · have := days_add y m d (d' - d)
    rw [show d + (d' - d) = d' by omega] at this
    omega
/-- Days go as the days go. -/
theorem days_iff {y m d y' m' d' : Int} (v : Valid y m d) (v' : Valid y' m' d') : daysOf y m d ≤ daysOf y' m' d' ↔ (y < y' ∨ y = y' ∧ (m < m' ∨ m = m' ∧ d ≤ d')) := by
  constructor
  · intro h
    have n2 : ¬ (y' < y ∨ y' = y ∧ (m' < m ∨ m' = m ∧ d' < d)) := fun hh => by have := days_lt v' v hh; omega
    omega
  · intro h
    by_cases c : y = y' ∧ m = m' ∧ d = d'
    · obtain ⟨rfl, rfl, rfl⟩ := c; exact Int.le_refl _
    · exact Int.le_of_lt (days_lt v v' (by omega))
end Ev
end Go.Proofs.Ytldfljlklfhjkaa.PE
