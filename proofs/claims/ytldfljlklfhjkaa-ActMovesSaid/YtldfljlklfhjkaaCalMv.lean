/- The calendar in plain numbers: what the printed functions of civil and of its reference come to, and that days and numbers undo each other. No conditions. -/
import Derived.Test.YtldfljlklfhjkaaPMvx13
import Derived.OpenShut
namespace Go.Proofs.Ytldfljlklfhjkaa.PMv
set_option linter.unusedVariables false
open Go.RowKit Go.Proofs.YtldfljlklfhjkaaW.PrintWords Go.Proofs.YtldfljlklfhjkaaW.PrintLast Go.Proofs.YtldfljlklfhjkaaW.PrintMore
/-- There: of a year of the era and a day of the (March) year. -/
theorem yoe_of (k s r : Int) (k0 : 0 ≤ k) (k1 : k ≤ 399) (s0 : 0 ≤ s) (s1 : s ≤ 365) (hl : s = 365 → (k + 1) % 4 = 0 ∧ ((k + 1) % 100 ≠ 0 ∨ (k + 1) % 400 = 0))
    (hr : r = 365 * k + k / 4 - k / 100 + s) : yoeOf r = k ∧ 0 ≤ r ∧ r < 146097 := by
  unfold yoeOf
  generalize hd : k / 100 = d at hr
  generalize hc : k / 4 = c at hr
  generalize hf : r / 36524 = f
  generalize hg : r / 146096 = g
  generalize he : r / 1460 = e
  have hd' : d = 0 ∨ d = 1 ∨ d = 2 ∨ d = 3 := by omega
  by_cases h5 : s = 365
  · obtain ⟨l1, l2⟩ := hl h5
    subst h5
    clear hl
    have hk : k = 399 ∨ (k ≠ 99 ∧ k ≠ 199 ∧ k ≠ 299) := by omega
    rcases hd' with rfl | rfl | rfl | rfl
    · obtain rfl : f = 0 := by omega
      obtain rfl : g = 0 := by omega
      omega
    · obtain rfl : f = 1 := by omega
      obtain rfl : g = 0 := by omega
      omega
    · obtain rfl : f = 2 := by omega
      obtain rfl : g = 0 := by omega
      omega
    · by_cases h399 : k = 399
      · subst h399; omega
      · obtain rfl : f = 3 := by omega
        obtain rfl : g = 0 := by omega
        omega
  · clear hl
    rcases hd' with rfl | rfl | rfl | rfl
    · obtain rfl : f = 0 := by omega
      obtain rfl : g = 0 := by omega
      omega
    · obtain rfl : f = 1 := by omega
      obtain rfl : g = 0 := by omega
      omega
    · obtain rfl : f = 2 := by omega
      obtain rfl : g = 0 := by omega
      omega
    · obtain rfl : f = 3 := by omega
      obtain rfl : g = 0 := by omega
      omega

theorem leapB_iff (y : Int) : leapB y = true ↔ y % 4 = 0 ∧ (y % 100 ≠ 0 ∨ y % 400 = 0) := by
  unfold leapB; simp
/-- A day of the calendar. -/
def Valid (y m d : Int) : Prop := 1 ≤ m ∧ m ≤ 12 ∧ 1 ≤ d ∧ d ≤ lenOf y m
theorem len_feb (y : Int) : lenOf y 2 = if leapB y = true then 29 else 28 := by simp [lenOf]
theorem len_two (y : Int) : (leapB y = true ∧ lenOf y 2 = 29) ∨ (leapB y = false ∧ lenOf y 2 = 28) := by
  cases h : leapB y <;> simp [len_feb, h]
theorem len_odd (y m : Int) (h : m = 1 ∨ m = 3 ∨ m = 5 ∨ m = 7 ∨ m = 8 ∨ m = 10 ∨ m = 12) : lenOf y m = 31 := by
  unfold lenOf; rw [if_neg (by omega), if_neg (by omega)]
theorem len_even (y m : Int) (h : m = 4 ∨ m = 6 ∨ m = 9 ∨ m = 11) : lenOf y m = 30 := by
  unfold lenOf; rw [if_neg (by omega), if_pos (by omega)]
/-- A day, cut into the era, the year of the era (from March on), the day of that year. -/
theorem cut_of (y m d : Int) (h : Valid y m d) : ∃ e k s mp : Int, 0 ≤ k ∧ k ≤ 399 ∧ 0 ≤ s ∧ s ≤ 365 ∧ (s = 365 → (k + 1) % 4 = 0 ∧ ((k + 1) % 100 ≠ 0 ∨ (k + 1) % 400 = 0)) ∧
    daysOf y m d + 719468 = 146097 * e + (365 * k + k / 4 - k / 100 + s) ∧ s = (153 * mp + 2) / 5 + d - 1 ∧ mp = (5 * s + 2) / 153 ∧
    ((m ≤ 2 ∧ mp = m + 9 ∧ y = k + e * 400 + 1) ∨ (2 < m ∧ mp = m - 3 ∧ y = k + e * 400)) := by
  obtain ⟨h1, h2, h3, h4⟩ := h
  by_cases c : m ≤ 2
  · refine ⟨(y - 1) / 400, (y - 1) % 400, (153 * (m + 9) + 2) / 5 + d - 1, m + 9, by omega, by omega, ?_, ?_, ?_, ?_, rfl, ?_, .inl ⟨c, rfl, by omega⟩⟩
    · omega
    · rcases (show m = 1 ∨ m = 2 by omega) with rfl | rfl
      · have := len_odd y 1 (by omega); omega
      · rcases len_two y with ⟨_, e⟩ | ⟨_, e⟩ <;> rw [e] at h4 <;> omega
    · rcases (show m = 1 ∨ m = 2 by omega) with rfl | rfl
      · have := len_odd y 1 (by omega); omega
      · rcases len_two y with ⟨l, e⟩ | ⟨_, e⟩ <;> rw [e] at h4
        · intro hs
          have := (leapB_iff y).mp l
          omega
        · intro hs; omega
    · unfold daysOf; rw [if_pos c]; omega
    · rcases (show m = 1 ∨ m = 2 by omega) with rfl | rfl
      · have := len_odd y 1 (by omega); omega
      · rcases len_two y with ⟨_, e⟩ | ⟨_, e⟩ <;> rw [e] at h4 <;> omega
  · have h31 := (len_bd y m).2
    refine ⟨y / 400, y % 400, (153 * (m - 3) + 2) / 5 + d - 1, m - 3, by omega, by omega, by omega, by omega, fun _ => by omega, ?_, rfl, ?_, .inr ⟨by omega, rfl, by omega⟩⟩
    · unfold daysOf; rw [if_neg c]; omega
    · rcases (show (m = 3 ∨ m = 5 ∨ m = 7 ∨ m = 8 ∨ m = 10 ∨ m = 12) ∨ (m = 4 ∨ m = 6 ∨ m = 9 ∨ m = 11) by omega) with hm | hm
      · rcases hm with rfl | rfl | rfl | rfl | rfl | rfl <;> omega
      · rw [len_even y m hm] at h4
        rcases hm with rfl | rfl | rfl | rfl <;> omega
/-- Back again. -/
theorem civ_days (y m d : Int) (h : Valid y m d) : civY (daysOf y m d) = y ∧ civM (daysOf y m d) = m ∧ civD (daysOf y m d) = d := by
  obtain ⟨e, k, s, mp, k0, k1, s0, s1, hl, hn, hs, hm, hc⟩ := cut_of y m d h
  obtain ⟨hy, r0, r1⟩ := yoe_of k s _ k0 k1 s0 s1 hl rfl
  generalize hr : 365 * k + k / 4 - k / 100 + s = r at *
  have hq : (daysOf y m d + 719468) / 146097 = e := by omega
  have hr' : (daysOf y m d + 719468) % 146097 = r := by omega
  have hd : doyOf r = s := by unfold doyOf; rw [hy]; omega
  have hp : mpOf r = mp := by unfold mpOf; rw [hd]; exact hm.symm
  obtain ⟨v1, v2, _, _⟩ := h
  refine ⟨?_, ?_, ?_⟩
  · unfold civY onY; rw [hq, hr', hp, hy]; split <;> omega
  · unfold civM onM; rw [hr', hp]; split <;> omega
  · unfold civD onD; rw [hr', hp, hd]; omega
theorem doy_last (r : Int) (h0 : 0 ≤ r) (h1 : r < 146097) (h : doyOf r = 365) : (yoeOf r + 1) % 4 = 0 ∧ ((yoeOf r + 1) % 100 ≠ 0 ∨ (yoeOf r + 1) % 400 = 0) := by
  unfold doyOf at h
  unfold yoeOf at h ⊢
  generalize hf : r / 36524 = f at *
  generalize hg : r / 146096 = g at *
  generalize he : r / 1460 = e at *
  generalize hb : (r - e + f - g) / 365 = b at *
  generalize hc : b / 4 = c at *
  generalize hd : b / 100 = d at *
  have hj : b = 4 * c ∨ b = 4 * c + 1 ∨ b = 4 * c + 2 ∨ b = 4 * c + 3 := by omega
  have hbd : 0 ≤ b ∧ b ≤ 399 := by omega
  have : f = 0 ∨ f = 1 ∨ f = 2 ∨ f = 3 ∨ f = 4 := by omega
  rcases this with rfl | rfl | rfl | rfl | rfl
  · obtain rfl : g = 0 := by omega
    obtain rfl : d = 0 := by omega
    rcases hj with hj | hj | hj | hj <;> omega
  · obtain rfl : g = 0 := by omega
    obtain rfl : d = 1 := by omega
    rcases hj with hj | hj | hj | hj <;> omega
  · obtain rfl : g = 0 := by omega
    obtain rfl : d = 2 := by omega
    rcases hj with hj | hj | hj | hj <;> omega
  · obtain rfl : g = 0 := by omega
    obtain rfl : d = 3 := by omega
    rcases hj with hj | hj | hj | hj <;> omega
  · obtain rfl : g = 1 := by omega
    obtain rfl : d = 3 := by omega
    rcases hj with hj | hj | hj | hj <;> omega
theorem days_civ (n : Int) : Valid (civY n) (civM n) (civD n) ∧ daysOf (civY n) (civM n) (civD n) = n := by
  have hq : n + 719468 = 146097 * ((n + 719468) / 146097) + (n + 719468) % 146097 := by omega
  have r0 : 0 ≤ (n + 719468) % 146097 := by omega
  have r1 : (n + 719468) % 146097 < 146097 := by omega
  unfold civY civM civD
  generalize (n + 719468) / 146097 = e at *
  generalize (n + 719468) % 146097 = r at *
  obtain ⟨d0, d1, y0, y1⟩ := doy_bd r r0 r1
  have hl := doy_last r r0 r1
  have hd : r = 365 * yoeOf r + yoeOf r / 4 - yoeOf r / 100 + doyOf r := by unfold doyOf; omega
  unfold onY onM onD
  have hm : mpOf r = (5 * doyOf r + 2) / 153 := rfl
  generalize mpOf r = mp at *
  generalize doyOf r = s at *
  generalize yoeOf r = k at *
  by_cases c : mp + 3 > 12
  · rw [if_pos c, if_pos c]
    refine ⟨⟨by omega, by omega, by omega, ?_⟩, ?_⟩
    · rcases (show mp = 10 ∨ mp = 11 by omega) with rfl | rfl
      · rw [len_odd _ _ (by omega)]; omega
      · show _ ≤ lenOf _ 2
        rcases len_two (k + e * 400 + 1) with ⟨_, el⟩ | ⟨l, el⟩ <;> rw [el]
        · omega
        · have hnl : ¬ ((k + e * 400 + 1) % 4 = 0 ∧ ((k + e * 400 + 1) % 100 ≠ 0 ∨ (k + e * 400 + 1) % 400 = 0)) := by
            rw [← leapB_iff, l]; simp
          have : s ≠ 365 := by intro hs; have := hl hs; omega
          omega
    · unfold daysOf; rw [if_pos (by omega), show (k + e * 400 + 1 - 1) / 400 = e by omega, show (k + e * 400 + 1 - 1) % 400 = k by omega, show mp + 3 - 12 + 9 = mp by omega]; omega
  · rw [if_neg c, if_neg c]
    refine ⟨⟨by omega, by omega, by omega, ?_⟩, ?_⟩
    · rcases (show (mp = 0 ∨ mp = 2 ∨ mp = 4 ∨ mp = 5 ∨ mp = 7 ∨ mp = 9) ∨ (mp = 1 ∨ mp = 3 ∨ mp = 6 ∨ mp = 8) by omega) with hm' | hm'
      · rw [len_odd _ _ (by omega)]; omega
      · rw [len_even _ _ (by omega)]; omega
    · unfold daysOf; rw [if_neg (by omega), show (k + e * 400) / 400 = e by omega, show (k + e * 400) % 400 = k by omega, show mp + 3 - 3 = mp by omega]; omega

/-! ### What the printed functions come to -/
theorem w64 {n : Int} (h : -9223372036854775808 ≤ n) (h2 : n ≤ 9223372036854775807) : wrap64 n = n := by unfold wrap64; omega
theorem tdiv_bd (a b : Int) (ha : -9223372036854775808 ≤ a) (ha2 : a ≤ 9223372036854775807) (hb : 2 ≤ b) : -9223372036854775808 ≤ Int.tdiv a b ∧ Int.tdiv a b ≤ 9223372036854775807 ∧ wrap64 (Int.tdiv a b) = Int.tdiv a b := by
  have h : (Int.tdiv a b).natAbs ≤ a.natAbs := by rw [Int.natAbs_tdiv]; exact Nat.div_le_self _ _
  have : -9223372036854775808 ≤ Int.tdiv a b ∧ Int.tdiv a b ≤ 9223372036854775807 := by
    by_cases h0 : 0 ≤ a
    · have := Int.tdiv_nonneg h0 (show 0 ≤ b by omega); omega
    · have h1 : Int.tdiv (-a) b = -(Int.tdiv a b) := Int.neg_tdiv a b
      have := Int.tdiv_nonneg (show 0 ≤ -a by omega) (show 0 ≤ b by omega)
      omega
  exact ⟨this.1, this.2, w64 this.1 this.2⟩
theorem within_of (a n : Int) (ha : -9223372036854775808 ≤ a) (ha2 : a ≤ 9223372036854775807) (h0 : 1 ≤ n) (h1 : n ≤ 4611686018427387904) : interlocutorlaw1_within.f a n = some (a % n) := by
  have hr0 := Int.emod_nonneg a (show n ≠ 0 by omega)
  have hr1 := Int.emod_lt_of_pos a (show 0 < n by omega)
  unfold interlocutorlaw1_within.f
  rw [if_neg (by omega)]
  have ht : Int.tmod a n = if 0 ≤ a ∨ n ∣ a then a % n else a % n - n := by
    rw [Int.tmod_eq_emod]; split <;> simp; omega
  have hz : n ∣ a ↔ a % n = 0 := Int.dvd_iff_emod_eq_zero
  by_cases c : 0 ≤ a ∨ n ∣ a
  · rw [if_pos c] at ht
    rw [ht, if_neg (by omega)]
  · rw [if_neg c] at ht
    rw [ht, if_pos (by omega), w64 (by omega) (by omega)]
    congr 1; omega
theorem rleap_of (y : Int) : interlocutorref1_Leap.f y = some (leapB y) := by
  unfold interlocutorref1_Leap.f leapB
  simp only [tmod_zero]
  have e : ∀ b : Int, ((Int.tmod y b) == 0) = (y % b == 0) := fun b => by rw [Bool.eq_iff_iff, beq_iff_eq, beq_iff_eq, tmod_zero]
  simp only [e]
  by_cases h4 : y % 4 = 0
  · by_cases h1 : y % 100 = 0
    · simp [h4, h1]
    · simp [h4, h1]
  · have h6 : (y % 4 == 0) = false := beq_eq_false_iff_ne.mpr h4
    rw [if_neg h4, h6]; rfl
theorem rlength_of (y m : Int) : interlocutorref1_Length.f y m = some (lenOf y m) := by
  rw [← length_of]
  unfold interlocutorref1_Length.f civil_Length.f
  rw [leap_of, rleap_of]
theorem rfloor_of (a b : Int) (ha : -4611686018427387904 ≤ a) (ha2 : a ≤ 4611686018427387904) (hb : 2 ≤ b) (hb2 : b ≤ 1000000) : interlocutorref1_floor.f a b = some (a / b) := by
  have h := civil_floor_of a b ha ha2 hb hb2
  unfold civil_floor.f at h
  unfold interlocutorref1_floor.f
  rw [if_neg (by omega)] at h ⊢
  split at h <;> rename_i c
  · rw [if_pos c]; injection h with h; injection h with h _; rw [h]
  · rw [if_neg c]; injection h with h; injection h with h _; rw [h]
/-- A day in the bounds that all calls here keep. -/
def Near (y : Int) : Prop := -100000 ≤ y ∧ y ≤ 100000
theorem days_of {y m d : Int} (h : Near y) (v : Valid y m d) : civil_Days.f y m d = some (daysOf y m d) := by
  obtain ⟨h1, h2, h3, h4⟩ := v; have := len_bd y m; unfold Near at h
  unfold civil_Days.f; rw [if_pos ⟨by omega, by omega, by omega, by omega, by omega, by omega⟩]
theorem days_near {y m d : Int} (h : Near y) (v : Valid y m d) : -400000000 ≤ daysOf y m d ∧ daysOf y m d ≤ 400000000 := by
  obtain ⟨h1, h2, h3, h4⟩ := v; have := len_bd y m; unfold Near at h
  exact days_bd y m d (by omega) (by omega) (by omega) (by omega) (by omega) (by omega)
theorem td {a b : Int} (h : 0 ≤ a) : Int.tdiv a b = a / b := Int.tdiv_eq_ediv_of_nonneg h
theorem tm {a b : Int} (h : 0 ≤ a) : Int.tmod a b = a % b := Int.tmod_eq_emod_of_nonneg h
theorem rdays_of {y m d : Int} (h : Near y) (v : Valid y m d) : interlocutorref1_Days.f y m d = some (daysOf y m d) := by
  obtain ⟨h1, h2, h3, h4⟩ := v; have := len_bd y m; unfold Near at h
  obtain ⟨hn1, hn2⟩ := h
  unfold interlocutorref1_Days.f daysOf
  by_cases c : m ≤ 2
  · rw [if_pos c, if_pos c, w64 (n := y - 1) (by omega) (by omega), rfloor_of _ _ (by omega) (by omega) (by omega) (by omega)]
    simp only [Option.bind_some]
    have e1 : (y - 1) - 400 * ((y - 1) / 400) = (y - 1) % 400 := by omega
    have e2 : (m + 9) % 12 = m + 9 := by omega
    simp (disch := omega) only [w64, td, tm, e1, e2]
    congr 1
    omega
  · rw [if_neg c, if_neg c, rfloor_of _ _ (by omega) (by omega) (by omega) (by omega)]
    simp only [Option.bind_some]
    have e1 : y - 400 * (y / 400) = y % 400 := by omega
    have e2 : (m + 9) % 12 = m - 3 := by omega
    simp (disch := omega) only [w64, td, tm, e1, e2]
    congr 1
    omega
theorem day_of (n : Int) (b : Bool) (h : -9223372036854775808 ≤ n) (h2 : n ≤ 9223372036854775807) : ∃ y m d, interlocutorlaw1_Day.f n b = some (y, m, d) ∧ Valid y m d ∧ Near y ∧ (b = true → -10000 ≤ y ∧ y ≤ 20000) ∧ (b = false → 1 ≤ y ∧ y ≤ 9999) := by
  obtain ⟨t1, t2, t3⟩ := tdiv_bd n 400 h h2 (by omega)
  obtain ⟨u1, u2, u3⟩ := tdiv_bd n 12 h h2 (by omega)
  unfold interlocutorlaw1_Day.f
  rw [t3, u3, within_of _ 9999 t1 t2 (by omega) (by omega)]
  simp only [Option.bind_some]
  cases b with
  | true =>
    rw [if_pos rfl, within_of _ 30001 t1 t2 (by omega) (by omega)]
    simp only [Option.bind_some]
    rw [within_of n 12 h h2 (by omega) (by omega)]
    simp only [Option.bind_some]
    rw [w64 (n := Int.tdiv n 400 % 30001 - 10000) (by omega) (by omega), w64 (n := 1 + n % 12) (by omega) (by omega), rlength_of]
    simp only [Option.bind_some]
    have hl := len_bd (Int.tdiv n 400 % 30001 - 10000) (1 + n % 12)
    rw [within_of _ _ u1 u2 (by omega) (by omega)]
    have a0 := Int.emod_nonneg (Int.tdiv n 12) (show lenOf (Int.tdiv n 400 % 30001 - 10000) (1 + n % 12) ≠ 0 by omega)
    have a1 := Int.emod_lt_of_pos (Int.tdiv n 12) (show 0 < lenOf (Int.tdiv n 400 % 30001 - 10000) (1 + n % 12) by omega)
    simp only [Option.bind_some]
    refine ⟨_, _, _, rfl, ⟨by omega, by omega, ?_, ?_⟩, ⟨by omega, by omega⟩, (fun _ => by omega), fun h => by cases h⟩
    · rw [w64 (by omega) (by omega)]; omega
    · rw [w64 (by omega) (by omega)]; omega
  | false =>
    rw [if_neg (by simp)]
    rw [within_of n 12 h h2 (by omega) (by omega)]
    simp only [Option.bind_some]
    rw [w64 (n := 1 + Int.tdiv n 400 % 9999) (by omega) (by omega), w64 (n := 1 + n % 12) (by omega) (by omega), rlength_of]
    simp only [Option.bind_some]
    have hl := len_bd (1 + Int.tdiv n 400 % 9999) (1 + n % 12)
    rw [within_of _ _ u1 u2 (by omega) (by omega)]
    have a0 := Int.emod_nonneg (Int.tdiv n 12) (show lenOf (1 + Int.tdiv n 400 % 9999) (1 + n % 12) ≠ 0 by omega)
    have a1 := Int.emod_lt_of_pos (Int.tdiv n 12) (show 0 < lenOf (1 + Int.tdiv n 400 % 9999) (1 + n % 12) by omega)
    simp only [Option.bind_some]
    refine ⟨_, _, _, rfl, ⟨by omega, by omega, ?_, ?_⟩, ⟨by omega, by omega⟩, (fun h => by cases h), fun _ => by omega⟩
    · rw [w64 (by omega) (by omega)]; omega
    · rw [w64 (by omega) (by omega)]; omega
theorem wf_bd {a : Int} (h : (Lit.int .i64 a).wf = true) : -9223372036854775808 ≤ a ∧ a ≤ 9223372036854775807 := bounds_i64 h

/-! ### The order of the days -/
theorem month_next {y m : Int} (h1 : 1 ≤ m) (h2 : m ≤ 11) (d : Int) : daysOf y (m + 1) d = daysOf y m d + lenOf y m := by
  unfold daysOf
  rcases (show m = 1 ∨ m = 2 ∨ (m = 3 ∨ m = 5 ∨ m = 7 ∨ m = 8 ∨ m = 10) ∨ (m = 4 ∨ m = 6 ∨ m = 9 ∨ m = 11) by omega) with rfl | rfl | hm | hm
  · rw [if_pos (by omega), if_pos (by omega), len_odd _ _ (by omega)]; omega
  · rw [if_neg (by omega), if_pos (by omega)]
    rcases len_two y with ⟨l, e⟩ | ⟨l, e⟩ <;> rw [e]
    · have hl := (leapB_iff y).mp l
      have e1 : y / 400 = (y - 1) / 400 + (if y % 400 = 0 then 1 else 0) := by split <;> omega
      by_cases c : y % 400 = 0
      · rw [if_pos c] at e1
        have e2 : (y - 1) % 400 = 399 := by omega
        rw [e1, e2, c]; omega
      · rw [if_neg c] at e1
        have e2 : (y - 1) % 400 = y % 400 - 1 := by omega
        have e3 : (y % 400 - 1) / 4 = y % 400 / 4 - 1 := by omega
        have e4 : (y % 400 - 1) / 100 = y % 400 / 100 := by omega
        rw [e1, e2, e3, e4]; omega
    · have hl : ¬ (y % 4 = 0 ∧ (y % 100 ≠ 0 ∨ y % 400 = 0)) := by rw [← leapB_iff, l]; simp
      have c : y % 400 ≠ 0 := by omega
      have e1 : y / 400 = (y - 1) / 400 := by omega
      have e2 : (y - 1) % 400 = y % 400 - 1 := by omega
      by_cases c4 : y % 4 = 0
      · have e3 : (y % 400 - 1) / 4 = y % 400 / 4 - 1 := by omega
        have e4 : (y % 400 - 1) / 100 = y % 400 / 100 - 1 := by omega
        rw [e1, e2, e3, e4]; omega
      · have e3 : (y % 400 - 1) / 4 = y % 400 / 4 := by omega
        have e4 : (y % 400 - 1) / 100 = y % 400 / 100 := by omega
        rw [e1, e2, e3, e4]; omega
  · rw [if_neg (by omega), if_neg (by omega), len_odd _ _ (by omega)]; rcases hm with rfl | rfl | rfl | rfl | rfl <;> omega
  · rw [if_neg (by omega), if_neg (by omega), len_even _ _ (by omega)]; rcases hm with rfl | rfl | rfl | rfl <;> omega
theorem year_next (y d : Int) : daysOf (y + 1) 1 d = daysOf y 12 d + 31 := by
  unfold daysOf
  rw [if_pos (by omega), if_neg (by omega), show y + 1 - 1 = y by omega]; omega
theorem days_add (y m d k : Int) : daysOf y m (d + k) = daysOf y m d + k := by
  unfold daysOf; split <;> omega
/-- The first day of a year's month, counted on. -/
theorem months_on (y : Int) : ∀ (j : Nat) (m : Int), 1 ≤ m → m + j ≤ 12 → daysOf y m 1 + 28 * j ≤ daysOf y (m + j) 1
  | 0, m, _, _ => by simp
  | j + 1, m, h1, h2 => by
    have ih := months_on y j m h1 (by omega)
    have e := month_next (y := y) (m := m + j) (by omega) (by omega) 1
    have := len_bd y (m + j)
    rw [show m + ((j + 1 : Nat) : Int) = m + j + 1 by omega]
    omega
theorem years_on : ∀ (j : Nat) (y : Int), daysOf y 1 1 + 339 * j ≤ daysOf (y + j) 1 1
  | 0, y => by simp
  | j + 1, y => by
    have ih := years_on j y
    have e := year_next (y + j) 1
    have h := months_on (y + j) 11 1 (by omega) (by omega)
    rw [show y + ((j + 1 : Nat) : Int) = y + j + 1 by omega]
    have e2 : (1 : Int) + (11 : Nat) = 12 := by omega
    rw [e2] at h
    omega
theorem days_in_month {y m d : Int} (v : Valid y m d) : daysOf y m 1 ≤ daysOf y m d ∧ daysOf y m d < daysOf y m 1 + lenOf y m := by
  obtain ⟨_, _, h3, h4⟩ := v
  have := days_add y m 1 (d - 1)
  rw [show 1 + (d - 1) = d by omega] at this
  omega
theorem days_in_year {y m d : Int} (v : Valid y m d) : daysOf y 1 1 ≤ daysOf y m d ∧ daysOf y m d < daysOf (y + 1) 1 1 := by
  have h := days_in_month v
  obtain ⟨h1, h2, h3, h4⟩ := v
  have a := months_on y (m - 1).toNat 1 (by omega) (by omega)
  have b := months_on y (12 - m).toNat m (by omega) (by omega)
  have e := year_next y 1
  rw [show 1 + ((m - 1).toNat : Int) = m by omega] at a
  rw [show m + ((12 - m).toNat : Int) = 12 by omega] at b
  by_cases c : m = 12
  · subst c
    rw [len_odd y 12 (by omega)] at h
    omega
  · have b2 := months_on y (11 - m).toNat (m + 1) (by omega) (by omega)
    rw [show m + 1 + ((11 - m).toNat : Int) = 12 by omega] at b2
    have e2 := month_next (y := y) (m := m) (by omega) (by omega) 1
    omega
theorem days_lt {y m d y' m' d' : Int} (v : Valid y m d) (v' : Valid y' m' d') (h : y < y' ∨ y = y' ∧ (m < m' ∨ m = m' ∧ d < d')) : daysOf y m d < daysOf y' m' d' := by
  rcases h with h | ⟨rfl, h | ⟨rfl, h⟩⟩
  · have a := days_in_year v
    have b := days_in_year v'
    have c := years_on (y' - (y + 1)).toNat (y + 1)
    rw [show y + 1 + ((y' - (y + 1)).toNat : Int) = y' by omega] at c
    omega
  · have a := days_in_month v
    have b := days_in_month v'
    obtain ⟨h1, h2, h3, h4⟩ := v
    obtain ⟨h1', h2', h3', h4'⟩ := v'
    have e2 := month_next (y := y) (m := m) (by omega) (by omega) 1
    have c := months_on y (m' - (m + 1)).toNat (m + 1) (by omega) (by omega)
    rw [show m + 1 + ((m' - (m + 1)).toNat : Int) = m' by omega] at c
    omega
  · have := days_add y m d (d' - d)
    rw [show d + (d' - d) = d' by omega] at this
    omega
theorem civ_near {n : Int} (h : -1000000000 ≤ n) (h2 : n ≤ 1000000000) : -5000000 ≤ civY n ∧ civY n ≤ 5000000 := by
  have r0 : 0 ≤ (n + 719468) % 146097 := by omega
  have r1 : (n + 719468) % 146097 < 146097 := by omega
  have := doy_bd _ r0 r1
  unfold civY onY
  split <;> omega
end Go.Proofs.Ytldfljlklfhjkaa.PMv

