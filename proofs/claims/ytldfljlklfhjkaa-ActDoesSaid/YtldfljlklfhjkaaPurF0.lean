/- The calendar, decimals, values: what the laws of act stand on. Conditions: as each states. -/
import Derived.Test.YtldfljlklfhjkaaPFt3
namespace Go.Proofs.Ytldfljlklfhjkaa.PE
open Go.RowKit Go.Proofs.YtldfljlklfhjkaaW.PrintWords Go.Proofs.YtldfljlklfhjkaaW.PrintLast Go.Proofs.YtldfljlklfhjkaaW.PrintMore
set_option linter.unusedVariables false
set_option linter.unusedSimpArgs false
namespace Ev
/-- Days, of numbers in bounds. -/
def daysOf (y m d : Int) : Int :=
  if m ≤ 2 then (y - 1) / 400 * 146097 + (y - 1) % 400 * 365 + (y - 1) % 400 / 4 - (y - 1) % 400 / 100 + (153 * (m + 9) + 2) / 5 + d - 719469
  else y / 400 * 146097 + y % 400 * 365 + y % 400 / 4 - y % 400 / 100 + (153 * (m - 3) + 2) / 5 + d - 719469
theorem leapB_iff (y : Int) : leapB y = true ↔ y % 4 = 0 ∧ (y % 100 ≠ 0 ∨ y % 400 = 0) := by
  unfold leapB; simp
/-- A day of the calendar. -/
def Valid (y m d : Int) : Prop := 1 ≤ m ∧ m ≤ 12 ∧ 1 ≤ d ∧ d ≤ lenOf y m
theorem len_feb (y : Int) : lenOf y 2 = if leapB y = true then 29 else 28 := by simp [lenOf]
theorem len_two (y : Int) : (leapB y = true ∧ lenOf y 2 = 29) ∨ (leapB y = false ∧ lenOf y 2 = 28) := by
  cases h : leapB y <;> simp [len_feb, h]
theorem len_odd (y m : Int) (h : m = 1 ∨ m = 3 ∨ m = 5 ∨ m = 7 ∨ m = 8 ∨ m = 10 ∨ m = 12) : lenOf y m = 31 := by
  unfold lenOf; rw [if_neg (by omega), if_neg (by omega)]
theorem len_even (y m : Int) (h : m = 4 ∨ m = 6 ∨ m = 9 ∨ m = 11) : lenOf y m = 30 := by
  unfold lenOf; rw [if_neg (by omega), if_pos (by omega)]
theorem w64 {n : Int} (h : -9223372036854775808 ≤ n) (h2 : n ≤ 9223372036854775807) : wrap64 n = n := by unfold wrap64; omega
theorem rleap_of (y : Int) : interlocutorref1_Leap.f y = some (leapB y) := by
  unfold interlocutorref1_Leap.f leapB
  simp only [tmod_zero]
  have e : ∀ b : Int, ((Int.tmod y b) == 0) = (y % b == 0) := fun b => by rw [Bool.eq_iff_iff, beq_iff_eq, beq_iff_eq, tmod_zero]
  simp only [e]
  by_cases h4 : y % 4 = 0
  · by_cases h1 : y % 100 = 0
    · simp [h4, h1]
    · simp [h4, h1]
  · have h6 : (y % 4 == 0) = false := beq_eq_false_iff_ne.mpr h4
    rw [if_neg h4, h6]; rfl
theorem rlength_of (y m : Int) : interlocutorref1_Length.f y m = some (lenOf y m) := by
  rw [← length_of]
  unfold interlocutorref1_Length.f civil_Length.f
  rw [leap_of, rleap_of]
theorem rfloor_of (a b : Int) (ha : -4611686018427387904 ≤ a) (ha2 : a ≤ 4611686018427387904) (hb : 2 ≤ b) (hb2 : b ≤ 1000000) : interlocutorref1_floor.f a b = some (a / b) := by
  unfold interlocutorref1_floor.f
  rw [if_neg (by omega)]
  have e1 := Int.mul_tdiv_add_tmod a b
  have e2 := Int.mul_ediv_add_emod a b
  have h0 := Int.emod_nonneg a (show b ≠ 0 by omega)
  have h1 := Int.emod_lt_of_pos a (show 0 < b by omega)
  have ht : Int.tmod a b = if 0 ≤ a ∨ b ∣ a then a % b else a % b - b := by
    rw [Int.tmod_eq_emod]; split <;> simp; omega
  have hd : (Int.tdiv a b).natAbs ≤ a.natAbs := by rw [Int.natAbs_tdiv]; exact Nat.div_le_self _ _
  have key : ∀ t : Int, b * t + Int.tmod a b = a → (Int.tmod a b < 0 → t - 1 = a / b) ∧ (¬ Int.tmod a b < 0 → t = a / b) := by
    intro t ht0
    by_cases c : 0 ≤ a ∨ b ∣ a
    · rw [if_pos c] at ht
      refine ⟨fun h => by omega, fun _ => ?_⟩
      have : b * t = b * (a / b) := by omega
      exact Int.eq_of_mul_eq_mul_left (by omega) this
    · rw [if_neg c] at ht
      refine ⟨fun h => ?_, fun h => by omega⟩
      have : b * (t - 1) = b * (a / b) := by rw [Int.mul_sub, Int.mul_one]; omega
      exact Int.eq_of_mul_eq_mul_left (by omega) this
  obtain ⟨k1, k2⟩ := key _ e1
  by_cases c : Int.tmod a b < 0
  · rw [if_pos c, w64 (n := Int.tdiv a b) (by omega) (by omega), w64 (by omega) (by omega), k1 c]
  · rw [if_neg c, w64 (by omega) (by omega), k2 c]
theorem td {a b : Int} (h : 0 ≤ a) : Int.tdiv a b = a / b := Int.tdiv_eq_ediv_of_nonneg h
theorem tm {a b : Int} (h : 0 ≤ a) : Int.tmod a b = a % b := Int.tmod_eq_emod_of_nonneg h
theorem rdays_far {y m d : Int} (hn1 : -1000000 ≤ y) (hn2 : y ≤ 1000000) (v : Valid y m d) : interlocutorref1_Days.f y m d = some (daysOf y m d) := by
  obtain ⟨h1, h2, h3, h4⟩ := v; have := len_bd y m
  unfold interlocutorref1_Days.f daysOf
  by_cases c : m ≤ 2
  · rw [if_pos c, if_pos c, w64 (n := y - 1) (by omega) (by omega), rfloor_of _ _ (by omega) (by omega) (by omega) (by omega)]
    simp only [Option.bind_some]
    have e1 : (y - 1) - 400 * ((y - 1) / 400) = (y - 1) % 400 := by omega
    have e2 : (m + 9) % 12 = m + 9 := by omega
    simp (disch := omega) only [w64, td, tm, e1, e2]
    congr 1
    omega
  · rw [if_neg c, if_neg c, rfloor_of _ _ (by omega) (by omega) (by omega) (by omega)]
    simp only [Option.bind_some]
    have e1 : y - 400 * (y / 400) = y % 400 := by omega
    have e2 : (m + 9) % 12 = m - 3 := by omega
    simp (disch := omega) only [w64, td, tm, e1, e2]
    congr 1
    omega
theorem month_next {y m : Int} (h1 : 1 ≤ m) (h2 : m ≤ 11) (d : Int) : daysOf y (m + 1) d = daysOf y m d + lenOf y m := by
  unfold daysOf
  rcases (show m = 1 ∨ m = 2 ∨ (m = 3 ∨ m = 5 ∨ m = 7 ∨ m = 8 ∨ m = 10) ∨ (m = 4 ∨ m = 6 ∨ m = 9 ∨ m = 11) by omega) with rfl | rfl | hm | hm
  · rw [if_pos (by omega), if_pos (by omega), len_odd _ _ (by omega)]; omega
  · rw [if_neg (by omega), if_pos (by omega)]
    rcases len_two y with ⟨l, e⟩ | ⟨l, e⟩ <;> rw [e]
    · have hl := (leapB_iff y).mp l
      have e1 : y / 400 = (y - 1) / 400 + (if y % 400 = 0 then 1 else 0) := by split <;> omega
      by_cases c : y % 400 = 0
      · rw [if_pos c] at e1
        have e2 : (y - 1) % 400 = 399 := by omega
        rw [e1, e2, c]; omega
      · rw [if_neg c] at e1
        have e2 : (y - 1) % 400 = y % 400 - 1 := by omega
        have e3 : (y % 400 - 1) / 4 = y % 400 / 4 - 1 := by omega
        have e4 : (y % 400 - 1) / 100 = y % 400 / 100 := by omega
        rw [e1, e2, e3, e4]; omega
    · have hl : ¬ (y % 4 = 0 ∧ (y % 100 ≠ 0 ∨ y % 400 = 0)) := by rw [← leapB_iff, l]; simp
      have c : y % 400 ≠ 0 := by omega
      have e1 : y / 400 = (y - 1) / 400 := by omega
      have e2 : (y - 1) % 400 = y % 400 - 1 := by omega
      by_cases c4 : y % 4 = 0
      · have e3 : (y % 400 - 1) / 4 = y % 400 / 4 - 1 := by omega
        have e4 : (y % 400 - 1) / 100 = y % 400 / 100 - 1 := by omega
        rw [e1, e2, e3, e4]; omega
      · have e3 : (y % 400 - 1) / 4 = y % 400 / 4 := by omega
        have e4 : (y % 400 - 1) / 100 = y % 400 / 100 := by omega
        rw [e1, e2, e3, e4]; omega
  · rw [if_neg (by omega), if_neg (by omega), len_odd _ _ (by omega)]; rcases hm with rfl | rfl | rfl | rfl | rfl <;> omega
  · rw [if_neg (by omega), if_neg (by omega), len_even _ _ (by omega)]; rcases hm with rfl | rfl | rfl | rfl <;> omega
theorem year_next (y d : Int) : daysOf (y + 1) 1 d = daysOf y 12 d + 31 := by
  unfold daysOf
  rw [if_pos (by omega), if_neg (by omega), show y + 1 - 1 = y by omega]; omega
theorem days_add (y m d k : Int) : daysOf y m (d + k) = daysOf y m d + k := by
  unfold daysOf; split <;> omega
/-- The first day of a year's month, counted on. -/
theorem months_on (y : Int) : ∀ (j : Nat) (m : Int), 1 ≤ m → m + j ≤ 12 → daysOf y m 1 + 28 * j ≤ daysOf y (m + j) 1
  | 0, m, _, _ => by simp
  | j + 1, m, h1, h2 => by
    have ih := months_on y j m h1 (by omega)
    have e := month_next (y := y) (m := m + j) (by omega) (by omega) 1
    have := len_bd y (m + j)
    rw [show m + ((j + 1 : Nat) : Int) = m + j + 1 by omega]
    omega
theorem years_on : ∀ (j : Nat) (y : Int), daysOf y 1 1 + 339 * j ≤ daysOf (y + j) 1 1
  | 0, y => by simp
  | j + 1, y => by
    have ih := years_on j y
    have e := year_next (y + j) 1
    have h := months_on (y + j) 11 1 (by omega) (by omega)
    rw [show y + ((j + 1 : Nat) : Int) = y + j + 1 by omega]
    have e2 : (1 : Int) + (11 : Nat) = 12 := by omega
    rw [e2] at h
    omega
theorem days_in_month {y m d : Int} (v : Valid y m d) : daysOf y m 1 ≤ daysOf y m d ∧ daysOf y m d < daysOf y m 1 + lenOf y m := by
  obtain ⟨_, _, h3, h4⟩ := v
  have := days_add y m 1 (d - 1)
  rw [show 1 + (d - 1) = d by omega] at this
  omega
theorem days_in_year {y m d : Int} (v : Valid y m d) : daysOf y 1 1 ≤ daysOf y m d ∧ daysOf y m d < daysOf (y + 1) 1 1 := by
  have h := days_in_month v
  obtain ⟨h1, h2, h3, h4⟩ := v
  have a := months_on y (m - 1).toNat 1 (by omega) (by omega)
  have b := months_on y (12 - m).toNat m (by omega) (by omega)
  have e := year_next y 1
  rw [show 1 + ((m - 1).toNat : Int) = m by omega] at a
  rw [show m + ((12 - m).toNat : Int) = 12 by omega] at b
  by_cases c : m = 12
  · subst c
    rw [len_odd y 12 (by omega)] at h
    omega
  · have b2 := months_on y (11 - m).toNat (m + 1) (by omega) (by omega)
    rw [show m + 1 + ((11 - m).toNat : Int) = 12 by omega] at b2
    have e2 := month_next (y := y) (m := m) (by omega) (by omega) 1
    omega
theorem days_lt {y m d y' m' d' : Int} (v : Valid y m d) (v' : Valid y' m' d') (h : y < y' ∨ y = y' ∧ (m < m' ∨ m = m' ∧ d < d')) : daysOf y m d < daysOf y' m' d' := by
  rcases h with h | ⟨rfl, h | ⟨rfl, h⟩⟩
  · have a := days_in_year v
    have b := days_in_year v'
    have c := years_on (y' - (y + 1)).toNat (y + 1)
    rw [show y + 1 + ((y' - (y + 1)).toNat : Int) = y' by omega] at c
    omega
  · have a := days_in_month v
    have b := days_in_month v'
    obtain ⟨h1, h2, h3, h4⟩ := v
    obtain ⟨h1', h2', h3', h4'⟩ := v'
    have e2 := month_next (y := y) (m := m) (by omega) (by omega) 1
    have c := months_on y (m' - (m + 1)).toNat (m + 1) (by omega) (by omega)
    rw [show m + 1 + ((m' - (m + 1)).toNat : Int) = m' by omega] at c
    omega
  · have := days_add y m d (d' - d)
    rw [show d + (d' - d) = d' by omega] at this
    omega
/-- Days go as the days go. -/
theorem days_iff {y m d y' m' d' : Int} (v : Valid y m d) (v' : Valid y' m' d') : daysOf y m d ≤ daysOf y' m' d' ↔ (y < y' ∨ y = y' ∧ (m < m' ∨ m = m' ∧ d ≤ d')) := by
  constructor
  · intro h
    have n2 : ¬ (y' < y ∨ y' = y ∧ (m' < m ∨ m' = m ∧ d' < d)) := fun hh => by have := days_lt v' v hh; omega
    omega
  · intro h
    by_cases c : y = y' ∧ m = m' ∧ d = d'
    · obtain ⟨rfl, rfl, rfl⟩ := c; exact Int.le_refl _
    · exact Int.le_of_lt (days_lt v v' (by omega))
theorem wrap_id (x : Int) (h0 : -9223372036854775808 ≤ x) (h1 : x ≤ 9223372036854775807) : wrap64 x = x := by unfold wrap64; omega
theorem within_is (a n : Int) (h : 0 < n) (h2 : n ≤ 9007199254740992) : ∃ x, interlocutorlaw8_within.F (a, n) = some x ∧ 0 ≤ x ∧ x < n := by
  show ∃ x, interlocutorlaw8_within.f a n = some x ∧ _
  unfold interlocutorlaw8_within.f
  rw [if_neg (by omega)]
  have h0 : Int.tmod a n < n := Int.tmod_lt_of_pos a h
  have h1 : -n < Int.tmod a n := by have := Int.lt_tmod_of_pos a h; omega
  by_cases c : Int.tmod a n < 0
  · rw [if_pos c]; exact ⟨_, rfl, by unfold wrap64; omega, by unfold wrap64; omega⟩
  · rw [if_neg c]; exact ⟨_, rfl, by omega, h0⟩
theorem within1_is (a n : Int) (h : 0 < n) (h2 : n ≤ 9007199254740992) : ∃ x, interlocutorlaw1_within.f a n = some x ∧ 0 ≤ x ∧ x < n := within_is a n h h2
theorem within2_is (a n : Int) (h : 0 < n) (h2 : n ≤ 9007199254740992) : ∃ x, interlocutorlaw2_within.f a n = some x ∧ 0 ≤ x ∧ x < n := within_is a n h h2
/-! ### A decimal -/
theorem make_is (a b : Int) : ∃ p q, interlocutorlaw2_Make.F (a, b) = some (p, q) ∧ -1000000000000000000 < p ∧ p < 1000000000000000000 ∧ 0 ≤ q ∧ q ≤ 18 := by
  have j : ∀ x : Int, -1000000000000000000 < x → x < 1000000000000000000 → ∃ p q, interlocutorlaw2_Make.j0 100 b x = some (p, q) ∧ -1000000000000000000 < p ∧ p < 1000000000000000000 ∧ 0 ≤ q ∧ q ≤ 18 := by
    intro x h0 h1
    obtain ⟨s, hs, _, _⟩ := within2_is b 11 (by omega) (by omega)
    obtain ⟨t, ht, t0, t1⟩ := within2_is (wrap64 (Int.tdiv b 7)) 19 (by omega) (by omega)
    show ∃ p q, ((interlocutorlaw2_within.f b 11).bind fun t272 => (if t272 = 0 then ((interlocutorlaw2_within.f (wrap64 (Int.tdiv b 7)) 19).bind fun t273 => (some (wrap64 ((wrap64 (Int.tdiv x 1000000)) * 1000000), t273))) else ((interlocutorlaw2_within.f (wrap64 (Int.tdiv b 7)) 19).bind fun t274 => (some (x, t274))))) = some (p, q) ∧ _
    rw [hs, ht]
    simp only [Option.bind_some]
    split
    · have h2 : 1000000 * Int.tdiv x 1000000 + Int.tmod x 1000000 = x := Int.mul_tdiv_add_tmod x 1000000
      have h3 : Int.tmod x 1000000 < 1000000 := Int.tmod_lt_of_pos x (by omega)
      have h4 : -1000000 < Int.tmod x 1000000 := by have := Int.lt_tmod_of_pos x (b := 1000000) (by omega); omega
      have h5 : 0 ≤ x → 0 ≤ Int.tmod x 1000000 := fun h => Int.tmod_nonneg 1000000 h
      have h6 : x ≤ 0 → Int.tmod x 1000000 ≤ 0 := fun h => by
        have e := Int.tmod_nonneg 1000000 (a := -x) (by omega)
        rw [Int.neg_tmod] at e; omega
      generalize Int.tdiv x 1000000 = y at *
      generalize Int.tmod x 1000000 = z at *
      refine ⟨_, _, rfl, ?_, ?_, t0, by omega⟩
      all_goals
        have y0 : -1000000000000 ≤ y ∧ y ≤ 1000000000000 := by omega
        rw [wrap_id y (by omega) (by omega), wrap_id _ (by omega) (by omega)]
        rcases Int.le_total 0 x with h | h
        · have := h5 h; omega
        · have := h6 h; omega
    · exact ⟨_, _, rfl, h0, h1, t0, by omega⟩
  show ∃ p q, interlocutorlaw2_Make.f 100 a b = some (p, q) ∧ _
  unfold interlocutorlaw2_Make.f
  obtain ⟨u, hu, _, _⟩ := within2_is b 7 (by omega) (by omega)
  obtain ⟨x, hx, x0, x1⟩ := within2_is a 2000 (by omega) (by omega)
  rw [hu, hx]
  simp only [Option.bind_some]
  split
  · exact j _ (by unfold wrap64; omega) (by unfold wrap64; omega)
  · exact j _ (by have := Int.lt_tmod_of_pos a (b := 1000000000000000000) (by omega); omega) (Int.tmod_lt_of_pos a (by omega))
/-- As Value norms it. -/
def dn : Nat → Int → Int → Option S27
  | 0, _, _ => none
  | k + 1, p, q => if q > 0 then (if p.tmod 10 = 0 then dn k (wrap64 (p.tdiv 10)) (wrap64 (q - 1)) else some ⟨7, [p, q]⟩) else some ⟨7, [p, q]⟩
theorem tmod10' (m : Int) : (Int.tmod m 10 = 0) ↔ (m % 10 = 0) := by rw [← Int.dvd_iff_tmod_eq_zero, Int.dvd_iff_emod_eq_zero]
theorem dn_is : ∀ (q : Nat) (k : Nat) (p : Int), q < k → -1000000000000000000 < p → p < 1000000000000000000 → q ≤ 18 → dn k p q = some ⟨7, [(normN q p).1, (normN q p).2]⟩
  | 0, 0, p, h, _, _, _ => absurd h (by omega)
  | 0, k + 1, p, _, _, _, _ => by simp [dn, normN]
  | q + 1, 0, p, h, _, _, _ => absurd h (by omega)
  | q + 1, k + 1, p, h, h0, h1, hq => by
    unfold dn normN
    rw [if_pos (by omega)]
    by_cases c : p % 10 = 0
    · rw [if_pos ((tmod10' p).2 c), if_pos c, tdiv10 p c, wrap_id (p / 10) (by omega) (by omega), show wrap64 (((q + 1 : Nat) : Int) - 1) = (q : Int) by rw [wrap_id _ (by omega) (by omega)]; omega]
      exact dn_is q k (p / 10) (by omega) (by omega) (by omega) (by omega)
    · rw [if_neg (fun h => c ((tmod10' p).1 h)), if_neg c]
theorem normN_is : ∀ (s : Nat) (m : Int), -1000000000000000000 < m → m < 1000000000000000000 → ∃ (m' : Int) (s' : Nat), normN s m = (m', (s' : Int)) ∧ s' ≤ s ∧ (s' = 0 ∨ m' % 10 ≠ 0) ∧ -1000000000000000000 < m' ∧ m' < 1000000000000000000
  | 0, m, h0, h1 => ⟨m, 0, rfl, Nat.le_refl _, .inl rfl, h0, h1⟩
  | s + 1, m, h0, h1 => by
    unfold normN
    by_cases c : m % 10 = 0
    · rw [if_pos c]
      obtain ⟨m', s', e, g1, g2, g3, g4⟩ := normN_is s (m / 10) (by omega) (by omega)
      exact ⟨m', s', e, by omega, g2, g3, g4⟩
    · rw [if_neg c]
      exact ⟨m, s + 1, rfl, Nat.le_refl _, .inr c, h0, h1⟩
theorem normN_id (s : Nat) (m : Int) (h : s = 0 ∨ m % 10 ≠ 0) : normN s m = (m, (s : Int)) := by
  cases s with
  | zero => rfl
  | succ s =>
    unfold normN
    rw [if_neg (by rcases h with h | h; (exact absurd h (by omega)); exact h)]
/-! ### Scaled, as both say it -/
def tenI : Nat → Int
  | 0 => 1
  | k + 1 => 10 * tenI k
/-- So many of a unit that stands j digits on. -/
def sc (p : Int) (q a : Nat) : Int × Bool := if a < q then (0, false) else if p > Int.tdiv 999999999999999999 (tenI (a - q)) ∨ -p > Int.tdiv 999999999999999999 (tenI (a - q)) then (0, false) else (p * tenI (a - q), true)
theorem ten_ten : ∀ j : Nat, j < 10 → dec_ten.f 100 (j : Int) = some (tenI j) := by decide +kernel
theorem ten_ref : ∀ j : Nat, j < 10 → interlocutorref2_Ten.F (j : Int) = some (tenI j) := by
  show ∀ j : Nat, j < 10 → interlocutorref2_Ten.f 100 (j : Int) = some (tenI j)
  decide +kernel
theorem ten_pos : ∀ j, j < 10 → 1 ≤ tenI j ∧ tenI j ≤ 1000000000 ∧ 0 ≤ Int.tdiv 999999999999999999 (tenI j) ∧ Int.tdiv 999999999999999999 (tenI j) ≤ 999999999999999999 ∧ Int.tdiv 999999999999999999 (tenI j) * tenI j ≤ 999999999999999999 := by decide +kernel
theorem bound_is : dec_bound.f 100 = some 1000000000000000000 := by kernel_rfl
theorem act_scaled (p : Int) (q a : Nat) (h0 : -1000000000000000000 < p) (h1 : p < 1000000000000000000) (hq : q ≤ 18) (hn : q = 0 ∨ p % 10 ≠ 0) (ha : a < 10) : dec_Scaled.f 100 p (q : Int) (a : Int) = some (sc p q a) := by
  have hN : dec_Norm.f p (q : Int) = some (p, (q : Int)) := by
    unfold dec_Norm.f
    rw [if_pos (by omega), Int.toNat_natCast, normN_id q p hn]
  unfold dec_Scaled.f
  rw [hN]
  simp only [Option.bind_some, bound_is]
  by_cases c0 : p = 0
  · subst c0
    have hq0 : q = 0 := by rcases hn with h | h; exact h; exact absurd rfl h
    subst hq0
    rw [if_pos rfl]
    unfold sc
    obtain ⟨t1, t2, t3, t4, t5⟩ := ten_pos (a - 0) (by omega)
    rw [if_neg (by omega), if_neg (by omega), Int.zero_mul]
  rw [if_neg c0]
  by_cases c1 : (a : Int) < (q : Int)
  · rw [if_pos c1]; unfold sc; rw [if_pos (by omega)]
  rw [if_neg c1]
  have hw : wrap64 ((a : Int) - (q : Int)) = ((a - q : Nat) : Int) := by rw [wrap_id _ (by omega) (by omega)]; omega
  obtain ⟨t1, t2, t3, t4, t5⟩ := ten_pos (a - q) (by omega)
  rw [hw, if_neg (by omega), ten_ten (a - q) (by omega)]
  simp only [Option.bind_some]
  rw [if_neg (by omega), show wrap64 (1000000000000000000 - 1) = 999999999999999999 by kernel_rfl, wrap_id (Int.tdiv 999999999999999999 (tenI (a - q))) (by omega) (by omega), wrap_id (-p) (by omega) (by omega)]
  unfold sc
  rw [if_neg (show ¬ a < q by omega)]
  have hd := t5
  generalize hdd : Int.tdiv 999999999999999999 (tenI (a - q)) = d at *
  generalize htt : tenI (a - q) = t at *
  unfold mx
  by_cases c2 : p > d ∨ -p > d
  · rw [if_pos c2, if_pos (by split <;> omega)]
  · rw [if_neg c2, if_neg (by split <;> omega)]
    have u1 : p * t ≤ d * t := Int.mul_le_mul_of_nonneg_right (by omega) (by omega)
    have u2 : -p * t ≤ d * t := Int.mul_le_mul_of_nonneg_right (by omega) (by omega)
    rw [Int.neg_mul] at u2
    rw [wrap_id (p * t) (by omega) (by omega)]
theorem nrm_id (p : Int) (q : Nat) (h0 : -1000000000000000000 < p) (h1 : p < 1000000000000000000) (hn : q = 0 ∨ p % 10 ≠ 0) : interlocutorref2_Norm.F (p, (q : Int)) = some (p, (q : Int)) := by
  show (if (q : Int) > 0 then (if (Int.tmod p 10) = 0 then (interlocutorref2_Norm.l0 99 (wrap64 (Int.tdiv p 10)) (wrap64 ((q : Int) - 1))) else (some (p, (q : Int)))) else (some (p, (q : Int)))) = _
  by_cases c : (q : Int) > 0
  · rw [if_pos c, if_neg (fun h => by
      have := (tmod10' p).1 h
      rcases hn with hn | hn
      · omega
      · exact hn this)]
  · rw [if_neg c]
theorem ref_scaled (p : Int) (q a : Nat) (h0 : -1000000000000000000 < p) (h1 : p < 1000000000000000000) (hq : q ≤ 18) (hn : q = 0 ∨ p % 10 ≠ 0) (ha : a < 10) : ref2_Scaled.F (p, (q : Int), (a : Int)) = some (sc p q a) := by
  unfold ref2_Scaled.F ref2_Scaled.t
  simp only [nrm_id p q h0 h1 hn, Option.bind_some]
  by_cases c1 : (q : Int) > (a : Int)
  · rw [if_pos c1]; unfold sc; rw [if_pos (by omega)]
  rw [if_neg c1]
  have hw : wrap64 ((a : Int) - (q : Int)) = ((a - q : Nat) : Int) := by rw [wrap_id _ (by omega) (by omega)]; omega
  obtain ⟨t1, t2, t3, t4, t5⟩ := ten_pos (a - q) (by omega)
  rw [hw, ten_ref (a - q) (by omega)]
  simp only [Option.bind_some]
  unfold sc
  have ht0 : ¬ tenI (a - q) = 0 := by omega
  have hW := wrap_id (Int.tdiv 999999999999999999 (tenI (a - q))) (by omega) (by omega)
  have hp := wrap_id (0 - p) (by omega) (by omega)
  rw [if_neg (show ¬ a < q by omega)]
  simp only [if_neg ht0, hW, hp]
  clear hW ht0
  generalize hdd : Int.tdiv 999999999999999999 (tenI (a - q)) = d at *
  generalize htt : tenI (a - q) = t at *
  have fin : ¬ (p > d ∨ -p > d) → wrap64 (p * t) = p * t := fun c2 => by
    have u1 : p * t ≤ d * t := Int.mul_le_mul_of_nonneg_right (by omega) (by omega)
    have u2 : -p * t ≤ d * t := Int.mul_le_mul_of_nonneg_right (by omega) (by omega)
    rw [Int.neg_mul] at u2
    exact wrap_id (p * t) (by omega) (by omega)
  by_cases c2 : p > d ∨ -p > d
  · rw [if_pos c2]
    split
    · rw [if_pos (by omega)]
    · rw [if_pos (by omega)]
  · rw [if_neg c2, fin c2]
    split
    · rw [if_neg (by omega)]
    · rw [if_neg (by omega)]
theorem right_dec (p : Int) (q : Nat) (h0 : -1000000000000000000 < p) (h1 : p < 1000000000000000000) (hq : q ≤ 18) (hn : q = 0 ∨ p % 10 ≠ 0) : ref8_Right.F ⟨7, [p, (q : Int)]⟩ = some true := by
  have hf : ref8_fields.F 7 = some 2 := by kernel_rfl
  have hr : interlocutorref2_Right.F (p, (q : Int)) = some true := by
    show interlocutorref2_Right.f 100 p (q : Int) = some true
    unfold interlocutorref2_Right.f
    rw [if_neg (by omega), if_neg (by omega), if_neg (by omega), if_neg (by omega), show interlocutorref2_Norm.f 100 p (q : Int) = some (p, (q : Int)) from nrm_id p q h0 h1 hn]
    simp
  unfold ref8_Right.F ref8_Right.t
  simp [hf, hr, rd, bm]
theorem right_money (k n : Int) (hk : 0 ≤ k) (hk2 : k < 10000) (g0 : -1000000000000000000 < n) (g1 : n < 1000000000000000000) : ref8_Right.F ⟨8, [k, n]⟩ = some true := by
  have hf : ref8_fields.F 8 = some 2 := by kernel_rfl
  unfold ref8_Right.F ref8_Right.t
  simp only [hf, Option.bind_some]
  simp [rd, bm, if_pos hk, if_pos (show k ≤ 1000000000 by omega), if_pos g0, if_pos g1]
theorem order_same (a : Int) : ref10_order.F (a, a) = some 0 := by
  unfold ref10_order.F ref10_order.t
  simp
theorem bm_t {γ : Type} (x y : γ) : bm true x y = x := rfl
theorem bm_f {γ : Type} (x y : γ) : bm false x y = y := rfl
theorem bm_id (b : Bool) : bm b (some true) (some false) = some b := by cases b <;> rfl
/-! ### Days and times -/
theorem rday_is (a b c : Int) : ref1_Day.F (a, b, c) = some (rightB a b c 0 0 0) := by
  have h : ∀ x : Bool, (x = true ↔ (1 ≤ a ∧ a ≤ 9999 ∧ 1 ≤ b ∧ b ≤ 12 ∧ 1 ≤ c ∧ c ≤ lenOf a b)) → x = rightB a b c 0 0 0 := fun x hx => by
    unfold rightB
    rw [Bool.eq_iff_iff, hx, decide_eq_true_iff]
    omega
  unfold ref1_Day.F ref1_Day.t
  simp only [interlocutorref1_Length.F, rlength_of, Option.bind_some]
  repeat' split
  all_goals
    congr 1
    apply h
    simp
    omega
theorem clock_is (a b c : Int) : interlocutorref1_Clock.F (a, b, c) = some (rightB 1 1 1 a b c) := by
  have h1 : lenOf 1 1 = 31 := by kernel_rfl
  have h : ∀ x : Bool, (x = true ↔ (0 ≤ a ∧ a ≤ 23 ∧ 0 ≤ b ∧ b ≤ 59 ∧ 0 ≤ c ∧ c ≤ 59)) → x = rightB 1 1 1 a b c := fun x hx => by
    unfold rightB
    rw [Bool.eq_iff_iff, hx, decide_eq_true_iff, h1]
    omega
  show interlocutorref1_Clock.f a b c = _
  unfold interlocutorref1_Clock.f
  repeat' split
  all_goals
    congr 1
    apply h
    simp
    omega
theorem day_three (f : List Int) (h : 3 ≤ f.length) : act_day.F f = some (rightB (rd f 0) (rd f 1) (rd f 2) 0 0 0) := by
  unfold act_day.F act_day.t
  rw [if_pos (by omega), if_pos (by omega), if_pos (by omega)]
  simp only [civil_Right.F, Option.bind_some, bm_id]
theorem time_three (f : List Int) (h : 3 ≤ f.length) : act_time.F f = some (rightB 1 1 1 (rd f 0) (rd f 1) (rd f 2)) := by
  unfold act_time.F act_time.t
  rw [if_pos (by omega), if_pos (by omega), if_pos (by omega)]
  simp only [civil_Right.F, Option.bind_some, bm_id]
theorem right_valid {y m d : Int} (h : rightB y m d 0 0 0 = true) : 1 ≤ y ∧ y ≤ 9999 ∧ Valid y m d := by
  unfold rightB at h
  rw [decide_eq_true_iff] at h
  exact ⟨by omega, by omega, by omega, by omega, by omega, by omega⟩
/-! ### Decimals -/
theorem rnorm_is : ∀ (q : Nat) (k : Nat) (p : Int), q < k → -1000000000000000000 < p → p < 1000000000000000000 → q ≤ 18 → interlocutorref2_Norm.l0 k p q = some (normN q p)
  | 0, 0, p, h, _, _, _ => absurd h (by omega)
  | 0, k + 1, p, _, _, _, _ => by simp [interlocutorref2_Norm.l0, normN]
  | q + 1, 0, p, h, _, _, _ => absurd h (by omega)
  | q + 1, k + 1, p, h, h0, h1, hq => by
    unfold interlocutorref2_Norm.l0 normN
    rw [if_pos (by omega)]
    by_cases c : p % 10 = 0
    · rw [if_pos ((tmod10' p).2 c), if_pos c, tdiv10 p c, wrap_id (p / 10) (by omega) (by omega), show wrap64 (((q + 1 : Nat) : Int) - 1) = (q : Int) by rw [wrap_id _ (by omega) (by omega)]; omega]
      exact rnorm_is q k (p / 10) (by omega) (by omega) (by omega) (by omega)
    · rw [if_neg (fun h => c ((tmod10' p).1 h)), if_neg c]
theorem decimal_is (a b : Int) : ∃ r, act_decimal.F [a, b] = some r ∧ interlocutorref2_Right.F (a, b) = some r := by
  show ∃ r, act_decimal.F [a, b] = some r ∧ interlocutorref2_Right.f 100 a b = some r
  have e0 : rd [a, b] 0 = a := rfl
  have e1 : rd [a, b] 1 = b := rfl
  unfold act_decimal.F act_decimal.t interlocutorref2_Right.f
  simp only [e0, e1, List.length_cons, List.length_nil]
  rw [if_pos (by omega)]
  by_cases c0 : a ≤ -1000000000000000000
  · rw [if_pos c0, if_pos c0]; exact ⟨_, rfl, rfl⟩
  rw [if_neg c0, if_neg c0, if_pos (by omega)]
  by_cases c1 : a ≥ 1000000000000000000
  · rw [if_pos c1, if_pos c1]; exact ⟨_, rfl, rfl⟩
  rw [if_neg c1, if_neg c1, if_pos (by omega)]
  by_cases c2 : b < 0
  · rw [if_pos c2, if_pos c2]; exact ⟨_, rfl, rfl⟩
  rw [if_neg c2, if_neg c2, if_pos (by omega)]
  by_cases c3 : b > 18
  · rw [if_pos c3, if_pos c3]; exact ⟨_, rfl, rfl⟩
  rw [if_neg c3, if_neg c3, if_pos (by omega), if_pos (by omega)]
  obtain ⟨q, rfl⟩ := Int.eq_ofNat_of_zero_le (show 0 ≤ b by omega)
  have hN : dec_Norm.F (a, (q : Int)) = some (normN q a) := by
    show dec_Norm.f a (q : Int) = _
    unfold dec_Norm.f
    rw [if_pos (by omega), Int.toNat_natCast]
  have hR : interlocutorref2_Norm.f 100 a (q : Int) = some (normN q a) := rnorm_is q 100 a (by omega) (by omega) (by omega) (by omega)
  rw [hN, hR]
  simp only [Option.bind_some]
  rw [if_pos (by omega)]
  by_cases c4 : (normN q a).1 = a
  · rw [if_pos c4, if_pos c4, if_pos (by omega)]
    by_cases c5 : (normN q a).2 = (q : Int)
    · rw [if_pos c5]; exact ⟨_, rfl, by rw [beq_iff_eq.mpr c5]⟩
    · rw [if_neg c5]; exact ⟨_, rfl, by rw [beq_eq_false_iff_ne.mpr c5]⟩
  · rw [if_neg c4, if_neg c4]; exact ⟨_, rfl, rfl⟩
/-! ### Spans -/
theorem comp_is (a b : Int) : cmp_Compare.F (a, b) = some (if a < b then -1 else if a > b then 1 else 0) := by
  have hn : ∀ x, cmp_isNaN.F x = some false := fun x => by unfold cmp_isNaN.F cmp_isNaN.t; rw [if_pos rfl]
  unfold cmp_Compare.F cmp_Compare.t
  simp only [hn, Option.bind_some, bm_f]
  repeat' split
  all_goals rfl
theorem compare_is (a b c d e f : Int) : ∃ t, slices_Compare.F ([a, b, c], [d, e, f]) = some t ∧ (t ≤ 0 ↔ (a < d ∨ a = d ∧ (b < e ∨ b = e ∧ c ≤ f))) := by
  have g0 : rd [a, b, c] 0 = a := rfl
  have g1 : rd [a, b, c] 1 = b := rfl
  have g2 : rd [a, b, c] 2 = c := rfl
  have k0 : rd [d, e, f] 0 = d := rfl
  have k1 : rd [d, e, f] 1 = e := rfl
  have k2 : rd [d, e, f] 2 = f := rfl
  unfold slices_Compare.F slices_Compare.t
  simp only [g0, g1, g2, k0, k1, k2, comp_is, List.length_cons, List.length_nil, Option.bind_some]
  rw [if_pos (by omega), if_pos (by omega), if_neg (by omega), if_pos (by omega)]
  by_cases c1 : a < d
  · simp only [if_pos c1]; rw [if_neg (by omega)]; exact ⟨_, rfl, by omega⟩
  simp only [if_neg c1]
  by_cases c2 : a > d
  · simp only [if_pos c2]; rw [if_neg (by omega)]; exact ⟨_, rfl, by omega⟩
  simp only [if_neg c2]
  rw [if_pos trivial, if_pos (by omega), if_pos (by omega), if_neg (by omega), if_pos (by omega)]
  by_cases c3 : b < e
  · simp only [if_pos c3]; rw [if_neg (by omega)]; exact ⟨_, rfl, by omega⟩
  simp only [if_neg c3]
  by_cases c4 : b > e
  · simp only [if_pos c4]; rw [if_neg (by omega)]; exact ⟨_, rfl, by omega⟩
  simp only [if_neg c4]
  rw [if_pos trivial, if_pos (by omega), if_pos (by omega), if_neg (by omega), if_pos (by omega)]
  by_cases c5 : c < f
  · simp only [if_pos c5]; rw [if_neg (by omega)]; exact ⟨_, rfl, by omega⟩
  simp only [if_neg c5]
  by_cases c6 : c > f
  · simp only [if_pos c6]; rw [if_neg (by omega)]; exact ⟨_, rfl, by omega⟩
  simp only [if_neg c6]
  rw [if_pos trivial, if_neg (by omega), if_neg (by omega)]
  exact ⟨_, rfl, by omega⟩
/-! ### Both tell the same -/
theorem same (v : S27) : ∃ b, act_Right.F v = some b ∧ ref8_Right.F v = some b := by
  obtain ⟨k, f⟩ := v
  by_cases c0 : k < 4
  · refine ⟨false, ?_, ?_⟩
    · unfold act_Right.F act_Right.t
      have : act_fields.F k = some (-1) := by unfold act_fields.F act_fields.t; rw [if_pos c0]
      simp only [this, Option.bind_some]
      rw [if_neg (by omega)]
    · unfold ref8_Right.F ref8_Right.t
      rw [if_pos c0]
  by_cases c1 : k > 10
  · refine ⟨false, ?_, ?_⟩
    · unfold act_Right.F act_Right.t
      have : act_fields.F k = some (-1) := by unfold act_fields.F act_fields.t; rw [if_neg c0, if_pos c1]
      simp only [this, Option.bind_some]
      rw [if_neg (by omega)]
    · unfold ref8_Right.F ref8_Right.t
      rw [if_neg c0, if_pos c1]
  have hno : ∀ n, act_fields.F k = some n → ref8_fields.F k = some n → ¬ (f.length : Int) = n → ∃ b, act_Right.F ⟨k, f⟩ = some b ∧ ref8_Right.F ⟨k, f⟩ = some b := fun n h1 h2 h3 => by
    refine ⟨false, ?_, ?_⟩
    · unfold act_Right.F act_Right.t
      simp only [h1, Option.bind_some]
      rw [if_neg h3]
    · unfold ref8_Right.F ref8_Right.t
      simp only [h2, Option.bind_some]
      rw [if_neg c0, if_neg c1, if_neg h3]
  by_cases h4 : k = 4
  · subst h4
    have e1 : act_fields.F 4 = some 3 := by kernel_rfl
    have e2 : ref8_fields.F 4 = some 3 := by kernel_rfl
    by_cases hl : (f.length : Int) = 3
    · unfold act_Right.F act_Right.t ref8_Right.F ref8_Right.t
      simp only [e1, e2, Option.bind_some, day_three f (by omega), rday_is, clock_is, bm_id]
      rw [if_neg c0, if_neg c1, if_pos hl, if_pos hl, if_pos trivial, if_pos trivial, if_pos (by omega), if_pos (by omega), if_pos (by omega)]
      exact ⟨_, rfl, rfl⟩
    · exact hno 3 e1 e2 hl
  by_cases h5 : k = 5
  · subst h5
    have e1 : act_fields.F 5 = some 3 := by kernel_rfl
    have e2 : ref8_fields.F 5 = some 3 := by kernel_rfl
    by_cases hl : (f.length : Int) = 3
    · unfold act_Right.F act_Right.t ref8_Right.F ref8_Right.t
      simp only [e1, e2, Option.bind_some, time_three f (by omega), rday_is, clock_is, bm_id]
      rw [if_neg c0, if_neg c1, if_pos hl, if_pos hl, if_neg h4, if_neg h4, if_pos trivial, if_pos trivial, if_pos (by omega), if_pos (by omega), if_pos (by omega)]
      exact ⟨_, rfl, rfl⟩
    · exact hno 3 e1 e2 hl
  by_cases h6 : k = 6
  · subst h6
    have e1 : act_fields.F 6 = some 6 := by kernel_rfl
    have e2 : ref8_fields.F 6 = some 6 := by kernel_rfl
    by_cases hl : (f.length : Int) = 6
    · match f, hl with
      | [x0, x1, x2, x3, x4, x5], _ =>
        unfold act_Right.F act_Right.t ref8_Right.F ref8_Right.t
        have d3 : List.drop 3 [x0, x1, x2, x3, x4, x5] = [x3, x4, x5] := rfl
        simp only [e1, e2, Option.bind_some, day_three [x0, x1, x2, x3, x4, x5] (by simp), d3, time_three [x3, x4, x5] (by simp), rday_is, clock_is, bm_id, List.length_cons, List.length_nil]
        have q0 : (0 : Int) < ((0 + 1 + 1 + 1 + 1 + 1 + 1 : Nat) : Int) := by omega
        have q1 : (1 : Int) < ((0 + 1 + 1 + 1 + 1 + 1 + 1 : Nat) : Int) := by omega
        have q2 : (2 : Int) < ((0 + 1 + 1 + 1 + 1 + 1 + 1 : Nat) : Int) := by omega
        have q3 : (3 : Int) < ((0 + 1 + 1 + 1 + 1 + 1 + 1 : Nat) : Int) := by omega
        have q4 : (4 : Int) < ((0 + 1 + 1 + 1 + 1 + 1 + 1 : Nat) : Int) := by omega
        have q5 : (5 : Int) < ((0 + 1 + 1 + 1 + 1 + 1 + 1 : Nat) : Int) := by omega
        have q6 : (3 : Int) ≤ ((0 + 1 + 1 + 1 + 1 + 1 + 1 : Nat) : Int) := by omega
        have qL : ((0 + 1 + 1 + 1 + 1 + 1 + 1 : Nat) : Int) = 6 := by omega
        rw [if_neg c0, if_neg c1, if_pos qL, if_pos qL, if_neg h4, if_neg h4, if_neg h5, if_neg h5, if_pos trivial, if_pos trivial]
        simp only [if_pos q0, if_pos q1, if_pos q2, if_pos q3, if_pos q4, if_pos q5, if_pos q6]
        cases rightB (rd [x0, x1, x2, x3, x4, x5] 0) (rd [x0, x1, x2, x3, x4, x5] 1) (rd [x0, x1, x2, x3, x4, x5] 2) 0 0 0 <;> exact ⟨_, rfl, rfl⟩
    · exact hno 6 e1 e2 hl
  by_cases h7 : k = 7
  · subst h7
    have e1 : act_fields.F 7 = some 2 := by kernel_rfl
    have e2 : ref8_fields.F 7 = some 2 := by kernel_rfl
    by_cases hl : (f.length : Int) = 2
    · match f, hl with
      | [x0, x1], _ =>
        obtain ⟨r, hr1, hr2⟩ := decimal_is x0 x1
        have g0 : rd [x0, x1] 0 = x0 := rfl
        have g1 : rd [x0, x1] 1 = x1 := rfl
        unfold act_Right.F act_Right.t ref8_Right.F ref8_Right.t
        simp only [e1, e2, Option.bind_some, hr1, hr2, bm_id, g0, g1, List.length_cons, List.length_nil]
        have q0 : (0 : Int) < ((0 + 1 + 1 : Nat) : Int) := by omega
        have q1 : (1 : Int) < ((0 + 1 + 1 : Nat) : Int) := by omega
        have qL : ((0 + 1 + 1 : Nat) : Int) = 2 := by omega
        rw [if_neg c0, if_neg c1, if_pos qL, if_pos qL, if_neg h4, if_neg h4, if_neg h5, if_neg h5, if_neg h6, if_neg h6, if_pos trivial, if_pos trivial]
        simp only [if_pos q0, if_pos q1]
        exact ⟨_, rfl, rfl⟩
    · exact hno 2 e1 e2 hl
  by_cases h8 : k = 8
  · subst h8
    have e1 : act_fields.F 8 = some 2 := by kernel_rfl
    have e2 : ref8_fields.F 8 = some 2 := by kernel_rfl
    by_cases hl : (f.length : Int) = 2
    · unfold act_Right.F act_Right.t ref8_Right.F ref8_Right.t
      simp only [e1, e2, Option.bind_some]
      rw [if_neg c0, if_neg c1, if_pos hl, if_pos hl, if_neg h4, if_neg h4, if_neg h5, if_neg h5, if_neg h6, if_neg h6, if_neg h7, if_neg h7, if_pos trivial, if_pos trivial]
      have g0 : (0 : Int) < f.length := by omega
      have g1 : (1 : Int) < f.length := by omega
      simp only [if_pos g0, if_pos g1]
      repeat' split
      all_goals exact ⟨_, rfl, rfl⟩
    · exact hno 2 e1 e2 hl
  by_cases h9 : k = 9
  · subst h9
    have e1 : act_fields.F 9 = some 1 := by kernel_rfl
    have e2 : ref8_fields.F 9 = some 1 := by kernel_rfl
    by_cases hl : (f.length : Int) = 1
    · unfold act_Right.F act_Right.t ref8_Right.F ref8_Right.t
      simp only [e1, e2, Option.bind_some]
      rw [if_neg c0, if_neg c1, if_pos hl, if_pos hl, if_neg h4, if_neg h4, if_neg h5, if_neg h5, if_neg h6, if_neg h6, if_neg h7, if_neg h7, if_neg h8, if_neg h8, if_pos trivial, if_pos trivial]
      have g0 : (0 : Int) < f.length := by omega
      simp only [if_pos g0]
      repeat' split
      all_goals exact ⟨_, rfl, rfl⟩
    · exact hno 1 e1 e2 hl
  obtain rfl : k = 10 := by omega
  have e1 : act_fields.F 10 = some 6 := by kernel_rfl
  have e2 : ref8_fields.F 10 = some 6 := by kernel_rfl
  by_cases hl : (f.length : Int) = 6
  · match f, hl with
    | [x0, x1, x2, x3, x4, x5], _ =>
      unfold act_Right.F act_Right.t ref8_Right.F ref8_Right.t
      have d3 : List.drop 3 [x0, x1, x2, x3, x4, x5] = [x3, x4, x5] := rfl
      have t3 : List.take 3 [x0, x1, x2, x3, x4, x5] = [x0, x1, x2] := rfl
      have g0 : rd [x0, x1, x2, x3, x4, x5] 0 = x0 := rfl
      have g1 : rd [x0, x1, x2, x3, x4, x5] 1 = x1 := rfl
      have g2 : rd [x0, x1, x2, x3, x4, x5] 2 = x2 := rfl
      have g3 : rd [x0, x1, x2, x3, x4, x5] 3 = x3 := rfl
      have g4 : rd [x0, x1, x2, x3, x4, x5] 4 = x4 := rfl
      have g5 : rd [x0, x1, x2, x3, x4, x5] 5 = x5 := rfl
      have k0 : rd [x3, x4, x5] 0 = x3 := rfl
      have k1 : rd [x3, x4, x5] 1 = x4 := rfl
      have k2 : rd [x3, x4, x5] 2 = x5 := rfl
      simp only [e1, e2, Option.bind_some, day_three [x0, x1, x2, x3, x4, x5] (by simp), d3, t3, day_three [x3, x4, x5] (by simp), rday_is, clock_is, bm_id, g0, g1, g2, g3, g4, g5, k0, k1, k2, List.length_cons, List.length_nil]
      have q0 : (0 : Int) < ((0 + 1 + 1 + 1 + 1 + 1 + 1 : Nat) : Int) := by omega
      have q1 : (1 : Int) < ((0 + 1 + 1 + 1 + 1 + 1 + 1 : Nat) : Int) := by omega
      have q2 : (2 : Int) < ((0 + 1 + 1 + 1 + 1 + 1 + 1 : Nat) : Int) := by omega
      have q3 : (3 : Int) < ((0 + 1 + 1 + 1 + 1 + 1 + 1 : Nat) : Int) := by omega
      have q4 : (4 : Int) < ((0 + 1 + 1 + 1 + 1 + 1 + 1 : Nat) : Int) := by omega
      have q5 : (5 : Int) < ((0 + 1 + 1 + 1 + 1 + 1 + 1 : Nat) : Int) := by omega
      have q6 : (3 : Int) ≤ ((0 + 1 + 1 + 1 + 1 + 1 + 1 : Nat) : Int) := by omega
      have qL : ((0 + 1 + 1 + 1 + 1 + 1 + 1 : Nat) : Int) = 6 := by omega
      rw [if_neg c0, if_neg c1, if_pos qL, if_pos qL, if_neg h4, if_neg h4, if_neg h5, if_neg h5, if_neg h6, if_neg h6, if_neg h7, if_neg h7, if_neg h8, if_neg h8, if_neg h9, if_neg h9]
      simp only [if_pos q0, if_pos q1, if_pos q2, if_pos q3, if_pos q4, if_pos q5, if_pos q6]
      cases ha : rightB x0 x1 x2 0 0 0 with
      | false => exact ⟨_, rfl, rfl⟩
      | true =>
        cases hb : rightB x3 x4 x5 0 0 0 with
        | false => exact ⟨_, rfl, rfl⟩
        | true =>
          obtain ⟨y0, y1, va⟩ := right_valid ha
          obtain ⟨z0, z1, vb⟩ := right_valid hb
          obtain ⟨t, ht, hi⟩ := compare_is x0 x1 x2 x3 x4 x5
          have r1 : interlocutorref1_Days.F (x0, x1, x2) = some (daysOf x0 x1 x2) := rdays_far (by omega) (by omega) va
          have r2 : interlocutorref1_Days.F (x3, x4, x5) = some (daysOf x3 x4 x5) := rdays_far (by omega) (by omega) vb
          simp only [ht, r1, r2, Option.bind_some, bm_t]
          have hd := days_iff va vb
          by_cases c : t ≤ 0
          · rw [if_pos c, if_pos (hd.2 (hi.1 c))]; exact ⟨_, rfl, rfl⟩
          · rw [if_neg c, if_neg (fun h => c (hi.2 (hd.1 h)))]; exact ⟨_, rfl, rfl⟩
  · exact hno 6 e1 e2 hl
/-! ### A value that may be -/
theorem day_ok (a : Int) : ∃ y m d, interlocutorlaw1_Day.F (a, false) = some (y, m, d) ∧ rightB y m d 0 0 0 = true := by
  obtain ⟨x, hx, x0, x1⟩ := within1_is (wrap64 (Int.tdiv a 400)) 9999 (by omega) (by omega)
  obtain ⟨y, hy, y0, y1⟩ := within1_is a 12 (by omega) (by omega)
  have hb := len_bd (1 + x) (1 + y)
  obtain ⟨z, hz, z0, z1⟩ := within1_is (wrap64 (Int.tdiv a 12)) (lenOf (1 + x) (1 + y)) (by omega) (by omega)
  refine ⟨1 + x, 1 + y, 1 + z, ?_, ?_⟩
  · show interlocutorlaw1_Day.f a false = _
    unfold interlocutorlaw1_Day.f
    simp only [hx, hy, Option.bind_some, wrap_id (1 + x) (by omega) (by omega), wrap_id (1 + y) (by omega) (by omega), rlength_of, hz, wrap_id (1 + z) (by omega) (by omega), Bool.false_eq_true, if_false]
  · unfold rightB
    rw [decide_eq_true_iff]
    omega
theorem right_day {y m d : Int} (h : rightB y m d 0 0 0 = true) : act_Right.F ⟨4, [y, m, d]⟩ = some true := by
  unfold act_Right.F act_Right.t
  have e1 : act_fields.F 4 = some 3 := by kernel_rfl
  have qL : ((0 + 1 + 1 + 1 : Nat) : Int) = 3 := by omega
  simp only [e1, Option.bind_some, day_three [y, m, d] (by simp), bm_id, List.length_cons, List.length_nil]
  rw [if_pos qL, if_pos trivial]
  exact congrArg some h
theorem right_time {a b c : Int} (h : 0 ≤ a ∧ a ≤ 23 ∧ 0 ≤ b ∧ b ≤ 59 ∧ 0 ≤ c ∧ c ≤ 59) : rightB 1 1 1 a b c = true := by
  have h1 : lenOf 1 1 = 31 := by kernel_rfl
  unfold rightB
  rw [decide_eq_true_iff, h1]
  omega
theorem right_ref {v : S27} (h : ref8_Right.F v = some true) : act_Right.F v = some true := by
  obtain ⟨b, h1, h2⟩ := same v
  rw [h1, ← h2, h]
set_option maxRecDepth 100000 in
theorem value_dn' (n0 a b : Int) (x y : Int × Int × Int) (p q : Int) (hw : interlocutorlaw8_within.F (n0, 7) = some 3) (hx : interlocutorlaw1_Day.F (a, false) = some x) (hy : interlocutorlaw1_Day.F (b, false) = some y) (hm : interlocutorlaw2_Make.F (a, b) = some (p, q)) : law8_Value.F (n0, a, b) = dn 20 p q := by
  unfold law8_Value.F law8_Value.t
  have h7 : wrap64 (4 + 3) = 7 := by kernel_rfl
  rw [hx, hy, hw]
  simp only [Option.bind_some, h7]
  rw [if_neg (by decide), if_neg (by decide), if_neg (by decide), if_pos trivial, hm, Option.bind_some]
  show _ = dn 20 p q
  kernel_rfl
set_option maxRecDepth 100000 in
/-- Whatever Value tells is right. -/
theorem value_ok (n a b : Int) : ∃ v, law8_Value.F (n, a, b) = some v ∧ act_Right.F v = some true ∧ 1 ≤ v.f1.length ∧ v.f1.length ≤ 6 := by
  obtain ⟨y, m, d, hx, vx⟩ := day_ok a
  obtain ⟨y', m', d', hy, vy⟩ := day_ok b
  obtain ⟨k, hk, k0, k1⟩ := within_is n 7 (by omega) (by omega)
  have w4 : wrap64 (4 + 0) = 4 := by kernel_rfl
  have w5 : wrap64 (4 + 1) = 5 := by kernel_rfl
  have w6 : wrap64 (4 + 2) = 6 := by kernel_rfl
  have w8 : wrap64 (4 + 4) = 8 := by kernel_rfl
  have w9 : wrap64 (4 + 5) = 9 := by kernel_rfl
  have w10 : wrap64 (4 + 6) = 10 := by kernel_rfl
  rcases (show k = 0 ∨ k = 1 ∨ k = 2 ∨ k = 3 ∨ k = 4 ∨ k = 5 ∨ k = 6 by omega) with rfl | rfl | rfl | rfl | rfl | rfl | rfl
  · refine ⟨⟨4, [y, m, d]⟩, ?_, right_day vx, by simp, by simp⟩
    unfold law8_Value.F law8_Value.t
    rw [hx, hy, hk, Option.bind_some, Option.bind_some, Option.bind_some, w4, if_pos rfl]
  · obtain ⟨p, hp, p0, p1⟩ := within_is a 24 (by omega) (by omega)
    obtain ⟨q, hq, q0, q1⟩ := within_is b 60 (by omega) (by omega)
    obtain ⟨r, hr, r0, r1⟩ := within_is (wrap64 (Int.tdiv a 24)) 60 (by omega) (by omega)
    refine ⟨⟨5, [p, q, r]⟩, ?_, ?_, by simp, by simp⟩
    · unfold law8_Value.F law8_Value.t
      rw [hx, hy, hk, Option.bind_some, Option.bind_some, Option.bind_some, w5, if_neg (by decide), if_pos rfl, hp, Option.bind_some, hq, Option.bind_some, hr, Option.bind_some]
    · unfold act_Right.F act_Right.t
      have e1 : act_fields.F 5 = some 3 := by kernel_rfl
      have qL : ((0 + 1 + 1 + 1 : Nat) : Int) = 3 := by omega
      simp only [e1, Option.bind_some, time_three [p, q, r] (by simp), bm_id, List.length_cons, List.length_nil]
      rw [if_pos qL, if_neg (by decide), if_pos trivial]
      have h2 : rightB 1 1 1 p q r = true := right_time ⟨p0, by omega, q0, by omega, r0, by omega⟩
      exact congrArg some h2
  · obtain ⟨p, hp, p0, p1⟩ := within_is b 24 (by omega) (by omega)
    obtain ⟨q, hq, q0, q1⟩ := within_is (wrap64 (Int.tdiv b 24)) 60 (by omega) (by omega)
    obtain ⟨r, hr, r0, r1⟩ := within_is (wrap64 (Int.tdiv b 1440)) 60 (by omega) (by omega)
    refine ⟨⟨6, [y, m, d, p, q, r]⟩, ?_, ?_, by simp, by simp⟩
    · unfold law8_Value.F law8_Value.t
      rw [hx, hy, hk, Option.bind_some, Option.bind_some, Option.bind_some, w6, if_neg (by decide), if_neg (by decide), if_pos rfl, hp, Option.bind_some, hq, Option.bind_some, hr, Option.bind_some]
    · unfold act_Right.F act_Right.t
      have e1 : act_fields.F 6 = some 6 := by kernel_rfl
      have qL : ((0 + 1 + 1 + 1 + 1 + 1 + 1 : Nat) : Int) = 6 := by omega
      have q3 : (3 : Int) ≤ ((0 + 1 + 1 + 1 + 1 + 1 + 1 : Nat) : Int) := by omega
      have d3 : List.drop 3 [y, m, d, p, q, r] = [p, q, r] := rfl
      simp only [e1, Option.bind_some, day_three [y, m, d, p, q, r] (by simp), d3, time_three [p, q, r] (by simp), bm_id, List.length_cons, List.length_nil]
      rw [if_pos qL, if_neg (by decide), if_neg (by decide), if_pos trivial, if_pos q3]
      have h1 : rightB (rd [y, m, d, p, q, r] 0) (rd [y, m, d, p, q, r] 1) (rd [y, m, d, p, q, r] 2) 0 0 0 = true := vx
      rw [h1, bm_t]
      have h2 : rightB 1 1 1 p q r = true := right_time ⟨p0, by omega, q0, by omega, r0, by omega⟩
      exact congrArg some h2
  · obtain ⟨p, q, hm, h0, h1, h2, h3⟩ := make_is a b
    obtain ⟨q, rfl⟩ := Int.eq_ofNat_of_zero_le h2
    obtain ⟨p', q', e, g1, g2, g3, g4⟩ := normN_is q p h0 h1
    refine ⟨⟨7, [p', (q' : Int)]⟩, ?_, right_ref (right_dec p' q' g3 g4 (by omega) g2), by simp, by simp⟩
    rw [value_dn' n a b _ _ p q hk hx hy hm, dn_is q 20 p (by omega) h0 h1 (by omega), e]
  · obtain ⟨p, hp, p0, p1⟩ := within_is b 1000 (by omega) (by omega)
    obtain ⟨q, hq, q0, q1⟩ := within_is b 3 (by omega) (by omega)
    refine ⟨⟨8, [10 * p + q, a.tmod 1000000000000]⟩, ?_, ?_, by simp, by simp⟩
    · unfold law8_Value.F law8_Value.t
      rw [hx, hy, hk, Option.bind_some, Option.bind_some, Option.bind_some, w8, if_neg (by decide), if_neg (by decide), if_neg (by decide), if_neg (by decide), if_pos rfl, hp, Option.bind_some, hq, Option.bind_some, wrap_id (10 * p) (by omega) (by omega), wrap_id (10 * p + q) (by omega) (by omega)]
    · have := Int.lt_tmod_of_pos a (b := 1000000000000) (by omega)
      have := Int.tmod_lt_of_pos a (b := 1000000000000) (by omega)
      exact right_ref (right_money _ _ (by omega) (by omega) (by omega) (by omega))
  · obtain ⟨p, hp, p0, p1⟩ := within_is a 9007199254740992 (by omega) (by omega)
    refine ⟨⟨9, [p]⟩, ?_, ?_, by simp, by simp⟩
    · unfold law8_Value.F law8_Value.t
      rw [hx, hy, hk, Option.bind_some, Option.bind_some, Option.bind_some, w9, if_neg (by decide), if_neg (by decide), if_neg (by decide), if_neg (by decide), if_neg (by decide), if_pos rfl, hp, Option.bind_some]
    · unfold act_Right.F act_Right.t
      have e1 : act_fields.F 9 = some 1 := by kernel_rfl
      have qL : ((0 + 1 : Nat) : Int) = 1 := by omega
      have q0 : (0 : Int) < ((0 + 1 : Nat) : Int) := by omega
      have g0 : rd [p] 0 = p := rfl
      simp only [e1, Option.bind_some, g0, List.length_cons, List.length_nil]
      rw [if_pos qL, if_neg (by decide), if_neg (by decide), if_neg (by decide), if_neg (by decide), if_neg (by decide), if_pos trivial, if_pos q0, if_pos p0, if_pos q0, if_pos (by omega)]
  · obtain ⟨y0, y1, va⟩ := right_valid vx
    obtain ⟨z0, z1, vb⟩ := right_valid vy
    have r1 : interlocutorref1_Days.F (y, m, d) = some (daysOf y m d) := rdays_far (by omega) (by omega) va
    have r2 : interlocutorref1_Days.F (y', m', d') = some (daysOf y' m' d') := rdays_far (by omega) (by omega) vb
    have span : ∀ (y m d y' m' d' : Int), rightB y m d 0 0 0 = true → rightB y' m' d' 0 0 0 = true → Valid y m d → Valid y' m' d' → daysOf y m d ≤ daysOf y' m' d' → act_Right.F ⟨10, [y, m, d, y', m', d']⟩ = some true := by
      intro y m d y' m' d' vx vy va vb hle
      obtain ⟨t, ht, hi⟩ := compare_is y m d y' m' d'
      unfold act_Right.F act_Right.t
      have e1 : act_fields.F 10 = some 6 := by kernel_rfl
      have qL : ((0 + 1 + 1 + 1 + 1 + 1 + 1 : Nat) : Int) = 6 := by omega
      have q3 : (3 : Int) ≤ ((0 + 1 + 1 + 1 + 1 + 1 + 1 : Nat) : Int) := by omega
      have d3 : List.drop 3 [y, m, d, y', m', d'] = [y', m', d'] := rfl
      have t3 : List.take 3 [y, m, d, y', m', d'] = [y, m, d] := rfl
      simp only [e1, Option.bind_some, day_three [y, m, d, y', m', d'] (by simp), d3, t3, day_three [y', m', d'] (by simp), bm_id, ht, List.length_cons, List.length_nil]
      rw [if_pos qL, if_neg (by decide), if_neg (by decide), if_neg (by decide), if_neg (by decide), if_neg (by decide), if_neg (by decide), if_pos q3]
      have h1 : rightB (rd [y, m, d, y', m', d'] 0) (rd [y, m, d, y', m', d'] 1) (rd [y, m, d, y', m', d'] 2) 0 0 0 = true := vx
      have h2 : rightB (rd [y', m', d'] 0) (rd [y', m', d'] 1) (rd [y', m', d'] 2) 0 0 0 = true := vy
      rw [h1, bm_t, h2, bm_t, if_pos q3, if_pos q3, if_pos (hi.2 ((days_iff va vb).1 hle))]
    by_cases c : daysOf y m d > daysOf y' m' d'
    · refine ⟨⟨10, [y', m', d', y, m, d]⟩, ?_, span _ _ _ _ _ _ vy vx vb va (by omega), by simp, by simp⟩
      unfold law8_Value.F law8_Value.t
      rw [hx, hy, hk, Option.bind_some, Option.bind_some, Option.bind_some, w10, if_neg (by decide), if_neg (by decide), if_neg (by decide), if_neg (by decide), if_neg (by decide), if_neg (by decide), if_pos rfl, r1, Option.bind_some, r2, Option.bind_some, if_pos c]
    · refine ⟨⟨10, [y, m, d, y', m', d']⟩, ?_, span _ _ _ _ _ _ vx vy va vb (by omega), by simp, by simp⟩
      unfold law8_Value.F law8_Value.t
      rw [hx, hy, hk, Option.bind_some, Option.bind_some, Option.bind_some, w10, if_neg (by decide), if_neg (by decide), if_neg (by decide), if_neg (by decide), if_neg (by decide), if_neg (by decide), if_pos rfl, r1, Option.bind_some, r2, Option.bind_some, if_neg c]
end Ev
end Go.Proofs.Ytldfljlklfhjkaa.PE
