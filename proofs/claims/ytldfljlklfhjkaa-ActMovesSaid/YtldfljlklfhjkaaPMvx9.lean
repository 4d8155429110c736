/- Each call of a function that is printed here answers what its plain Lean function answers; written by a program of this session (wip/myprint.py) over the kit's print. Conditions: that the plain function answers. -/
import Derived.Test.YtldfljlklfhjkaaPMvx0
import Derived.Test.YtldfljlklfhjkaaPMvx1
namespace Go.Proofs.Ytldfljlklfhjkaa.PMv
open Go.RowKit Go.Proofs.YtldfljlklfhjkaaW.PrintWords Go.Proofs.YtldfljlklfhjkaaW.PrintLast Go.Proofs.YtldfljlklfhjkaaW.PrintMore
attribute [local go_sem] max2_int min2_int max_two min_two max_three min_three max_four min_four   -- for this text's walks alone
set_option linter.unusedVariables false
set_option linter.unusedSimpArgs false

/-! ### civil_floor: function 111 -/
def civil_floor.f (a0 : Int) (a1 : Int) : Option (Int × Int) := if a1 = 0 then (none) else (if (Int.tmod a0 a1) < 0 then (some (wrap64 ((wrap64 (Int.tdiv a0 a1)) - 1), wrap64 ((Int.tmod a0 a1) + a1))) else (some (wrap64 (Int.tdiv a0 a1), Int.tmod a0 a1)))
set_option maxHeartbeats 8000000 in
set_option maxRecDepth 100000 in
theorem civil_floor.calls (a0 : Int) (a1 : Int) (r1 : Int) (r2 : Int) (w : World) (h : civil_floor.f a0 a1 = some (r1, r2)) :
    Calls Try.prog 111 #[.int .i64 a0, .int .i64 a1] w fun e w' => e = .returned (.tuple #[.int .i64 r1, .int .i64 r2]) ∧ Drawn0 w w' := by
  have H : (if a1 = 0 then (none) else (if (Int.tmod a0 a1) < 0 then (some (wrap64 ((wrap64 (Int.tdiv a0 a1)) - 1), wrap64 ((Int.tmod a0 a1) + a1))) else (some (wrap64 (Int.tdiv a0 a1), Int.tmod a0 a1)))) = some (r1, r2) := h
  clear h
  by_cases c3 : a1 = 0
  · rw [if_pos c3] at H
    exact absurd H (by simp)
  · rw [if_neg c3] at H
    have c3b0 : (a1 == 0) = false := beq_eq_false_iff_ne.mpr c3
    have c3b1 : (a1 != 0) = true := bne_iff_ne.mpr c3
    by_cases c4 : (Int.tmod a0 a1) < 0
    · rw [if_pos c4] at H
      have c4b0 : decide ((Int.tmod a0 a1) < 0) = true := decide_eq_true c4
      clear c4
      simp only [Option.some.injEq, Prod.mk.injEq] at H
      obtain ⟨rfl, rfl⟩ := H
      go_enter Try.func111, Try.ntmps111
      go_wp2
      repeat (go_quiet (fail); try go_wp2)
      go_ret2
      exact ⟨by first | rfl | (simp; done) | (simp [*]; done), by repeat (first | exact Drawn0.refl _ | apply Drawn0.step)⟩
    · rw [if_neg c4] at H
      have c4b0 : decide ((Int.tmod a0 a1) < 0) = false := decide_eq_false c4
      clear c4
      simp only [Option.some.injEq, Prod.mk.injEq] at H
      obtain ⟨rfl, rfl⟩ := H
      go_enter Try.func111, Try.ntmps111
      go_wp2
      repeat (go_quiet (fail); try go_wp2)
      go_ret2
      exact ⟨by first | rfl | (simp; done) | (simp [*]; done), by repeat (first | exact Drawn0.refl _ | apply Drawn0.step)⟩

theorem civil_floor_of (a b : Int) (ha : -4611686018427387904 ≤ a) (ha2 : a ≤ 4611686018427387904) (hb : 2 ≤ b) (hb2 : b ≤ 1000000) : civil_floor.f a b = some (a / b, a % b) := by
  have hq := Int.mul_ediv_add_emod a b
  have hr0 := Int.emod_nonneg a (show b ≠ 0 by omega)
  have hr1 := Int.emod_lt_of_pos a (show 0 < b by omega)
  have tq := Int.mul_tdiv_add_tmod a b
  have e1 : Int.tdiv a b = if a < 0 ∧ a % b ≠ 0 then a / b + 1 else a / b := by
    by_cases h0 : 0 ≤ a
    · rw [Int.tdiv_eq_ediv_of_nonneg h0, if_neg (by omega)]
    · rw [Int.tdiv_eq_ediv]
      by_cases hd : b ∣ a
      · rw [if_pos (Or.inr hd), if_neg (by have := Int.emod_eq_zero_of_dvd hd; omega)]; omega
      · rw [if_neg (by rintro (h | h); exact h0 h; exact hd h), if_pos ⟨by omega, fun h => hd (Int.dvd_of_emod_eq_zero h)⟩, Int.sign_eq_one_of_pos (by omega)]
  have bq : -4611686018427387904 ≤ a / b ∧ a / b ≤ 4611686018427387904 := by
    constructor
    · exact Int.le_ediv_of_mul_le (by omega) (by have := Int.mul_le_mul_of_nonneg_left (show (1:Int) ≤ b by omega) (show (0:Int) ≤ 4611686018427387904 by omega); omega)
    · exact Int.ediv_le_of_le_mul (by omega) (by have := Int.mul_le_mul_of_nonneg_left (show (1:Int) ≤ b by omega) (show (0:Int) ≤ 4611686018427387904 by omega); omega)
  unfold civil_floor.f
  rw [if_neg (by omega)]
  by_cases hc : a < 0 ∧ a % b ≠ 0
  · rw [if_pos hc] at e1
    have em : Int.tmod a b = a % b - b := by
      rw [e1, Int.mul_add] at tq
      omega
    rw [if_pos (by omega), em, e1]
    have w1 : wrap64 (a / b + 1) = a / b + 1 := by unfold wrap64; omega
    have w2 : wrap64 (a / b + 1 - 1) = a / b := by unfold wrap64; omega
    have w3 : wrap64 (a % b - b + b) = a % b := by unfold wrap64; omega
    rw [w1, w2, w3]
  · rw [if_neg hc] at e1
    have em : Int.tmod a b = a % b := by
      rw [e1] at tq
      omega
    rw [if_neg (by omega), em, e1]
    have w1 : wrap64 (a / b) = a / b := by unfold wrap64; omega
    rw [w1]



/-! ### civil_day_number: function 119 -/
theorem ret_int {k : IntKind} {a b : Int} (h : a = b) : Ending.returned (.int k a) = .returned (.int k b) := by rw [h]

/-- Days, of numbers in bounds. -/
def daysOf (y m d : Int) : Int :=
  if m ≤ 2 then (y - 1) / 400 * 146097 + (y - 1) % 400 * 365 + (y - 1) % 400 / 4 - (y - 1) % 400 / 100 + (153 * (m + 9) + 2) / 5 + d - 719469
  else y / 400 * 146097 + y % 400 * 365 + y % 400 / 4 - y % 400 / 100 + (153 * (m - 3) + 2) / 5 + d - 719469

set_option maxHeartbeats 8000000 in
set_option maxRecDepth 100000 in
theorem number_calls (a0 a1 a2 : Int) (w : World) (b1 : -1000000 ≤ a0) (b2 : a0 ≤ 1000000) (b3 : 1 ≤ a1) (b4 : a1 ≤ 12) (b5 : -1000000 ≤ a2) (b6 : a2 ≤ 1000000) :
    Calls Try.prog 119 #[.agg #[.int .i64 a0, .int .i64 a1, .int .i64 a2]] w fun e w' => e = .returned (.int .i64 (daysOf a0 a1 a2)) ∧ Below w.heap.size w w' := by
  by_cases c : a1 ≤ 2
  · have hF := Lib.hid (civil_floor_of (a0 - 1) 400 (by omega) (by omega) (by omega) (by omega))
    have hD := Lib.hid (show daysOf a0 a1 a2 = (a0 - 1) / 400 * 146097 + (a0 - 1) % 400 * 365 + (a0 - 1) % 400 / 4 - (a0 - 1) % 400 / 100 + (153 * (a1 + 9) + 2) / 5 + a2 - 719469 by unfold daysOf; rw [if_pos c])
    have hq0 : -5000 ≤ (a0 - 1) / 400 := by omega
    have hq1 : (a0 - 1) / 400 ≤ 5000 := by omega
    have hr0 : 0 ≤ (a0 - 1) % 400 := by omega
    have hr1 : (a0 - 1) % 400 < 400 := by omega
    generalize (a0 - 1) / 400 = q at *
    generalize (a0 - 1) % 400 = r at *
    go_enter Try.func119, Try.ntmps119
    go_wp2_with fail
    go_quiet (fail)
    go_wp2_with (go_at_call 111; refine (civil_floor.calls _ _ _ _ _ hF.out).mono ?_; rintro e w' ⟨rfl, ⟨nd, rfl⟩⟩)
    go_ret
    exact ⟨ret_int (by rw [hD.out]; omega), by repeat (first | exact Below.refl _ _ | apply below_alloc | apply pw_below_drewN | apply below_drew1)⟩
  · have hF := Lib.hid (civil_floor_of a0 400 (by omega) (by omega) (by omega) (by omega))
    have hD := Lib.hid (show daysOf a0 a1 a2 = a0 / 400 * 146097 + a0 % 400 * 365 + a0 % 400 / 4 - a0 % 400 / 100 + (153 * (a1 - 3) + 2) / 5 + a2 - 719469 by unfold daysOf; rw [if_neg c])
    have hq0 : -5000 ≤ a0 / 400 := by omega
    have hq1 : a0 / 400 ≤ 5000 := by omega
    have hr0 : 0 ≤ a0 % 400 := by omega
    have hr1 : a0 % 400 < 400 := by omega
    generalize a0 / 400 = q at *
    generalize a0 % 400 = r at *
    go_enter Try.func119, Try.ntmps119
    go_wp2_with fail
    go_quiet (fail)
    go_wp2_with (go_at_call 111; refine (civil_floor.calls _ _ _ _ _ hF.out).mono ?_; rintro e w' ⟨rfl, ⟨nd, rfl⟩⟩)
    go_ret
    exact ⟨ret_int (by rw [hD.out]; omega), by repeat (first | exact Below.refl _ _ | apply below_alloc | apply pw_below_drewN | apply below_drew1)⟩



/-! ### civil_on: function 112 -/
theorem ret_day {a b c a' b' c' : Int} (h : a = a' ∧ b = b' ∧ c = c') : Ending.returned (.agg #[.int .i64 a, .int .i64 b, .int .i64 c]) = .returned (.agg #[.int .i64 a', .int .i64 b', .int .i64 c']) := by
  obtain ⟨rfl, rfl, rfl⟩ := h; rfl
theorem ret_day3 {a b c a' b' c' : Int} (h : a = a' ∧ b = b' ∧ c = c') : Ending.returned (.tuple #[.int .i64 a, .int .i64 b, .int .i64 c]) = .returned (.tuple #[.int .i64 a', .int .i64 b', .int .i64 c']) := by
  obtain ⟨rfl, rfl, rfl⟩ := h; rfl

/-- Civil's parts, of a day's number: the year of the era, the day of the year, the month (0: March). -/
def yoeOf (r : Int) : Int := (r - r / 1460 + r / 36524 - r / 146096) / 365
def doyOf (r : Int) : Int := r - (365 * yoeOf r + yoeOf r / 4 - yoeOf r / 100)
def mpOf (r : Int) : Int := (5 * doyOf r + 2) / 153
def onM (r : Int) : Int := if mpOf r + 3 > 12 then mpOf r + 3 - 12 else mpOf r + 3
def onD (r : Int) : Int := doyOf r - (153 * mpOf r + 2) / 5 + 1
def onY (q r : Int) : Int := if mpOf r + 3 > 12 then yoeOf r + q * 400 + 1 else yoeOf r + q * 400
def civY (n : Int) : Int := onY ((n + 719468) / 146097) ((n + 719468) % 146097)
def civM (n : Int) : Int := onM ((n + 719468) % 146097)
def civD (n : Int) : Int := onD ((n + 719468) % 146097)
theorem doy_bd0 (r : Int) (h0 : 0 ≤ r) (h1 : r < 146097) : 0 ≤ r - (365 * yoeOf r + yoeOf r / 4 - yoeOf r / 100) ∧ r - (365 * yoeOf r + yoeOf r / 4 - yoeOf r / 100) ≤ 365 ∧ 0 ≤ yoeOf r ∧ yoeOf r ≤ 399 := by
  unfold yoeOf
  generalize hf : r / 36524 = f
  generalize hg : r / 146096 = g
  generalize he : r / 1460 = e
  generalize hb : (r - e + f - g) / 365 = b
  generalize hc : b / 4 = c
  generalize hd : b / 100 = d
  have : f = 0 ∨ f = 1 ∨ f = 2 ∨ f = 3 ∨ f = 4 := by omega
  rcases this with rfl | rfl | rfl | rfl | rfl
  · obtain rfl : g = 0 := by omega
    obtain rfl : d = 0 := by omega
    omega
  · obtain rfl : g = 0 := by omega
    obtain rfl : d = 1 := by omega
    omega
  · obtain rfl : g = 0 := by omega
    obtain rfl : d = 2 := by omega
    omega
  · obtain rfl : g = 0 := by omega
    obtain rfl : d = 3 := by omega
    omega
  · obtain rfl : g = 1 := by omega
    obtain rfl : d = 3 := by omega
    omega
theorem doy_bd (r : Int) (h0 : 0 ≤ r) (h1 : r < 146097) : 0 ≤ doyOf r ∧ doyOf r ≤ 365 ∧ 0 ≤ yoeOf r ∧ yoeOf r ≤ 399 := doy_bd0 r h0 h1

set_option maxHeartbeats 8000000 in
set_option maxRecDepth 100000 in
theorem on_calls (a0 : Int) (w : World) (b1 : -1000000000000 ≤ a0) (b2 : a0 ≤ 1000000000000) :
    Calls Try.prog 112 #[.int .i64 a0] w fun e w' => e = .returned (.agg #[.int .i64 (civY a0), .int .i64 (civM a0), .int .i64 (civD a0)]) ∧ Below w.heap.size w w' := by
  have hF := Lib.hid (civil_floor_of (a0 + 719468) 146097 (by omega) (by omega) (by omega) (by omega))
  have hq0 : -10000000 ≤ (a0 + 719468) / 146097 := by omega
  have hq1 : (a0 + 719468) / 146097 ≤ 10000000 := by omega
  have hr0 : 0 ≤ (a0 + 719468) % 146097 := by omega
  have hr1 : (a0 + 719468) % 146097 < 146097 := by omega
  have hY := Lib.hid (show civY a0 = onY ((a0 + 719468) / 146097) ((a0 + 719468) % 146097) from rfl)
  have hM := Lib.hid (show civM a0 = onM ((a0 + 719468) % 146097) from rfl)
  have hD := Lib.hid (show civD a0 = onD ((a0 + 719468) % 146097) from rfl)
  generalize (a0 + 719468) / 146097 = q at *
  generalize (a0 + 719468) % 146097 = r at *
  obtain ⟨hd0, hd1, hy0, hy1⟩ := doy_bd r hr0 hr1
  have hm0 : 0 ≤ mpOf r := by unfold mpOf; omega
  have hm1 : mpOf r ≤ 11 := by unfold mpOf; omega
  by_cases c : 12 < mpOf r + 3
  · have c' := Lib.hid c
    unfold mpOf doyOf yoeOf at hm0 hm1 c
    unfold doyOf yoeOf at hd0 hd1
    unfold yoeOf at hy0 hy1
    go_enter Try.func112, Try.ntmps112
    go_wp2_with (go_at_call 111; refine (civil_floor.calls _ _ _ _ _ hF.out).mono ?_; rintro e w' ⟨rfl, ⟨nd, rfl⟩⟩)
    refine bodyPost_ret (v := .agg #[_, _, _]) (by simp [results, Try.results112, go_sem]; exact ⟨rfl, rfl, rfl⟩) rfl ⟨ret_day ⟨?_, ?_, ?_⟩, by repeat (first | exact Below.refl _ _ | apply below_alloc | apply pw_below_drewN | apply below_drew1 | refine below_set ?_ (Nat.le_refl _))⟩
    · rw [hY.out, onY, if_pos c'.out]; rfl
    · rw [hM.out, onM, if_pos c'.out]; rfl
    · rw [hD.out, onD]; rfl
  · have c' := Lib.hid c
    unfold mpOf doyOf yoeOf at hm0 hm1 c
    unfold doyOf yoeOf at hd0 hd1
    unfold yoeOf at hy0 hy1
    go_enter Try.func112, Try.ntmps112
    go_wp2_with (go_at_call 111; refine (civil_floor.calls _ _ _ _ _ hF.out).mono ?_; rintro e w' ⟨rfl, ⟨nd, rfl⟩⟩)
    refine bodyPost_ret (v := .agg #[_, _, _]) (by simp [results, Try.results112, go_sem]; exact ⟨rfl, rfl, rfl⟩) rfl ⟨ret_day ⟨?_, ?_, ?_⟩, by repeat (first | exact Below.refl _ _ | apply below_alloc | apply pw_below_drewN | apply below_drew1 | refine below_set ?_ (Nat.le_refl _))⟩
    · rw [hY.out, onY, if_neg (by have := c'.out; omega)]; rfl
    · rw [hM.out, onM, if_neg (by have := c'.out; omega)]; rfl
    · rw [hD.out, onD]; rfl



/-! ### civil_Days: function 113 -/
def civil_Days.f (a0 a1 a2 : Int) : Option Int :=
  if -1000000 ≤ a0 ∧ a0 ≤ 1000000 ∧ 1 ≤ a1 ∧ a1 ≤ 12 ∧ -1000000 ≤ a2 ∧ a2 ≤ 1000000 then some (daysOf a0 a1 a2) else none
set_option maxHeartbeats 8000000 in
set_option maxRecDepth 100000 in
theorem civil_Days.calls (a0 : Int) (a1 : Int) (a2 : Int) (r : Int) (w : World) (h : civil_Days.f a0 a1 a2 = some r) :
    Calls Try.prog 113 #[.int .i64 a0, .int .i64 a1, .int .i64 a2] w fun e w' => e = .returned (.int .i64 r) ∧ Below w.heap.size w w' := by
  unfold civil_Days.f at h
  by_cases hb : -1000000 ≤ a0 ∧ a0 ≤ 1000000 ∧ 1 ≤ a1 ∧ a1 ≤ 12 ∧ -1000000 ≤ a2 ∧ a2 ≤ 1000000
  · rw [if_pos hb] at h
    obtain ⟨b1, b2, b3, b4, b5, b6⟩ := hb
    obtain rfl := Option.some.inj h
    go_enter Try.func113, Try.ntmps113
    go_wp2_with (go_at_call 119; refine (number_calls a0 a1 a2 _ b1 b2 b3 b4 b5 b6).mono ?_; rintro e w' ⟨rfl, HB⟩)
    go_ret
    exact ⟨rfl, HB⟩
  · rw [if_neg hb] at h
    cases h



/-! ### civil_Add: function 96 -/
theorem days_bd (y m d : Int) (b1 : -1000000 ≤ y) (b2 : y ≤ 1000000) (b3 : 1 ≤ m) (b4 : m ≤ 12) (b5 : -1000000 ≤ d) (b6 : d ≤ 1000000) : -400000000 ≤ daysOf y m d ∧ daysOf y m d ≤ 400000000 := by
  unfold daysOf; split <;> omega

/-- Add: the day's number, behind it. -/
def addN (y m d mo da : Int) : Int := daysOf ((12 * y + m - 1 + mo) / 12) ((12 * y + m - 1 + mo) % 12 + 1) (if d ≤ lenOf ((12 * y + m - 1 + mo) / 12) ((12 * y + m - 1 + mo) % 12 + 1) then d else lenOf ((12 * y + m - 1 + mo) / 12) ((12 * y + m - 1 + mo) % 12 + 1)) + da
def civil_Add.f (a0 a1 a2 a3 a4 : Int) : Option (Int × Int × Int × Bool) :=
  if a3 < -1000000 ∨ 1000000 < a3 ∨ a4 < -10000000 ∨ 10000000 < a4 then some (0, 0, 0, false)
  else if -100000 ≤ a0 ∧ a0 ≤ 100000 ∧ 1 ≤ a1 ∧ a1 ≤ 12 ∧ -1000000 ≤ a2 ∧ a2 ≤ 1000000 then
    (if civY (addN a0 a1 a2 a3 a4) < 1 ∨ 9999 < civY (addN a0 a1 a2 a3 a4) then some (0, 0, 0, false)
    else some (civY (addN a0 a1 a2 a3 a4), civM (addN a0 a1 a2 a3 a4), civD (addN a0 a1 a2 a3 a4), true))
  else none

set_option maxHeartbeats 8000000 in
set_option maxRecDepth 100000 in
theorem add_out (a0 a1 a2 a3 a4 : Int) (w : World) (h : a3 < -1000000 ∨ 1000000 < a3 ∨ a4 < -10000000 ∨ 10000000 < a4) :
    Calls Try.prog 96 #[.int .i64 a0, .int .i64 a1, .int .i64 a2, .int .i64 a3, .int .i64 a4] w fun e w' => e = .returned (.tuple #[.int .i64 0, .int .i64 0, .int .i64 0, .bool false]) ∧ Below w.heap.size w w' := by
  by_cases h1 : a3 < -1000000
  · clear h
    go_enter Try.func96, Try.ntmps96
    go_wp2_with fail
    refine bodyPost_ret (results_list (rs := [.tmp 10, .tmp 11, .tmp 12, .tmp 13]) rfl (by simp) (.tmp (.tmp (.tmp (.tmp .nil))))) rfl ?_
    exact ⟨rfl, Below.refl _ _⟩
  · by_cases h2 : 1000000 < a3
    · clear h
      go_enter Try.func96, Try.ntmps96
      go_wp2_with fail
      refine bodyPost_ret (results_list (rs := [.tmp 10, .tmp 11, .tmp 12, .tmp 13]) rfl (by simp) (.tmp (.tmp (.tmp (.tmp .nil))))) rfl ?_
      exact ⟨rfl, Below.refl _ _⟩
    · by_cases h3 : a4 < -10000000
      · clear h
        go_enter Try.func96, Try.ntmps96
        go_wp2_with fail
        refine bodyPost_ret (results_list (rs := [.tmp 10, .tmp 11, .tmp 12, .tmp 13]) rfl (by simp) (.tmp (.tmp (.tmp (.tmp .nil))))) rfl ?_
        exact ⟨rfl, Below.refl _ _⟩
      · have h4 : 10000000 < a4 := by omega
        clear h
        go_enter Try.func96, Try.ntmps96
        go_wp2_with fail
        refine bodyPost_ret (results_list (rs := [.tmp 10, .tmp 11, .tmp 12, .tmp 13]) rfl (by simp) (.tmp (.tmp (.tmp (.tmp .nil))))) rfl ?_
        exact ⟨rfl, Below.refl _ _⟩

/-- What Add answers, of the day that is come to. -/
def addV (Y M D : Int) : Value := if Y < 1 ∨ 9999 < Y then .tuple #[.int .i64 0, .int .i64 0, .int .i64 0, .bool false] else .tuple #[.int .i64 Y, .int .i64 M, .int .i64 D, .bool true]

set_option maxHeartbeats 8000000 in
set_option maxRecDepth 100000 in
theorem add_in (a0 a1 a2 a3 a4 : Int) (w : World) (h1 : -1000000 ≤ a3) (h2 : a3 ≤ 1000000) (h3 : -10000000 ≤ a4) (h4 : a4 ≤ 10000000) (b1 : -100000 ≤ a0) (b2 : a0 ≤ 100000) (b3 : 1 ≤ a1) (b4 : a1 ≤ 12) (b5 : -1000000 ≤ a2) (b6 : a2 ≤ 1000000) :
    Calls Try.prog 96 #[.int .i64 a0, .int .i64 a1, .int .i64 a2, .int .i64 a3, .int .i64 a4] w fun e w' =>
      e = .returned (addV (civY (addN a0 a1 a2 a3 a4)) (civM (addN a0 a1 a2 a3 a4)) (civD (addN a0 a1 a2 a3 a4))) ∧ Below w.heap.size w w' := by
  have hF := Lib.hid (civil_floor_of (12 * a0 + a1 - 1 + a3) 12 (by omega) (by omega) (by omega) (by omega))
  have hN := Lib.hid (show addN a0 a1 a2 a3 a4 = daysOf ((12 * a0 + a1 - 1 + a3) / 12) ((12 * a0 + a1 - 1 + a3) % 12 + 1) (if a2 ≤ lenOf ((12 * a0 + a1 - 1 + a3) / 12) ((12 * a0 + a1 - 1 + a3) % 12 + 1) then a2 else lenOf ((12 * a0 + a1 - 1 + a3) / 12) ((12 * a0 + a1 - 1 + a3) % 12 + 1)) + a4 from rfl)
  have hq0 : -200000 ≤ (12 * a0 + a1 - 1 + a3) / 12 := by omega
  have hq1 : (12 * a0 + a1 - 1 + a3) / 12 ≤ 200000 := by omega
  have hr0 : 0 ≤ (12 * a0 + a1 - 1 + a3) % 12 := by omega
  have hr1 : (12 * a0 + a1 - 1 + a3) % 12 < 12 := by omega
  generalize (12 * a0 + a1 - 1 + a3) / 12 = q at *
  generalize (12 * a0 + a1 - 1 + a3) % 12 = r at *
  have hL := Lib.hid (length_of q (r + 1))
  obtain ⟨hl0, hl1⟩ := len_bd q (r + 1)
  generalize lenOf q (r + 1) = L at *
  generalize addN a0 a1 a2 a3 a4 = N at *
  by_cases c : a2 ≤ L
  · have hN1 := Lib.hid (show N = daysOf q (r + 1) a2 + a4 by rw [hN.out, if_pos c])
    clear hN
    have hD := Lib.hid (show civil_Days.f q (r + 1) a2 = some (daysOf q (r + 1) a2) by unfold civil_Days.f; rw [if_pos ⟨by omega, by omega, by omega, by omega, by omega, by omega⟩])
    obtain ⟨hk0, hk1⟩ := days_bd q (r + 1) a2 (by omega) (by omega) (by omega) (by omega) (by omega) (by omega)
    generalize daysOf q (r + 1) a2 = k at *
    obtain rfl := hN1.out
    clear hN1
    have hO := fun w => Lib.hid (on_calls (k + a4) w (by omega) (by omega))
    generalize civY (k + a4) = Y at *
    generalize civM (k + a4) = M at *
    generalize civD (k + a4) = D at *
    by_cases hY1 : Y < 1
    · have hV := Lib.hid (show addV Y M D = .tuple #[.int .i64 0, .int .i64 0, .int .i64 0, .bool false] by unfold addV; rw [if_pos (Or.inl hY1)])
      go_enter Try.func96, Try.ntmps96
      go_wp2_with (first | (go_at_call 111; refine (civil_floor.calls _ _ _ _ _ hF.out).mono ?_; rintro e w' ⟨rfl, ⟨nd, rfl⟩⟩) | (go_at_call 108; refine (civil_Length.calls _ _ _ _ hL.out).mono ?_; rintro e w' ⟨rfl, ⟨nd, rfl⟩⟩) | (go_at_call 113; refine (civil_Days.calls _ _ _ _ _ hD.out).mono ?_; rintro e w1 ⟨rfl, HB1⟩) | (go_at_call 112; refine (hO _).out.mono ?_; rintro e w2 ⟨rfl, HB2⟩))
      refine bodyPost_ret (results_list (rs := [.tmp 10, .tmp 11, .tmp 12, .tmp 13]) rfl (by simp) (.tmp (.tmp (.tmp (.tmp .nil))))) rfl ?_
      exact ⟨congrArg Ending.returned (by rw [hV.out]; rfl), by have HB := below_then (below_then (pw_below_drewN (Below.refl _ _) _) (Nat.le_refl _) HB1) HB1.size HB2; repeat (first | exact HB | apply below_alloc | apply pw_below_drewN | apply below_drew1 | refine below_set ?_ HB.size)⟩
    · by_cases hY2 : 9999 < Y
      · have hV := Lib.hid (show addV Y M D = .tuple #[.int .i64 0, .int .i64 0, .int .i64 0, .bool false] by unfold addV; rw [if_pos (Or.inr hY2)])
        go_enter Try.func96, Try.ntmps96
        go_wp2_with (first | (go_at_call 111; refine (civil_floor.calls _ _ _ _ _ hF.out).mono ?_; rintro e w' ⟨rfl, ⟨nd, rfl⟩⟩) | (go_at_call 108; refine (civil_Length.calls _ _ _ _ hL.out).mono ?_; rintro e w' ⟨rfl, ⟨nd, rfl⟩⟩) | (go_at_call 113; refine (civil_Days.calls _ _ _ _ _ hD.out).mono ?_; rintro e w1 ⟨rfl, HB1⟩) | (go_at_call 112; refine (hO _).out.mono ?_; rintro e w2 ⟨rfl, HB2⟩))
        refine bodyPost_ret (results_list (rs := [.tmp 10, .tmp 11, .tmp 12, .tmp 13]) rfl (by simp) (.tmp (.tmp (.tmp (.tmp .nil))))) rfl ?_
        exact ⟨congrArg Ending.returned (by rw [hV.out]; rfl), by have HB := below_then (below_then (pw_below_drewN (Below.refl _ _) _) (Nat.le_refl _) HB1) HB1.size HB2; repeat (first | exact HB | apply below_alloc | apply pw_below_drewN | apply below_drew1 | refine below_set ?_ HB.size)⟩
      · have hV := Lib.hid (show addV Y M D = .tuple #[.int .i64 Y, .int .i64 M, .int .i64 D, .bool true] by unfold addV; rw [if_neg (by omega)])
        go_enter Try.func96, Try.ntmps96
        go_wp2_with (first | (go_at_call 111; refine (civil_floor.calls _ _ _ _ _ hF.out).mono ?_; rintro e w' ⟨rfl, ⟨nd, rfl⟩⟩) | (go_at_call 108; refine (civil_Length.calls _ _ _ _ hL.out).mono ?_; rintro e w' ⟨rfl, ⟨nd, rfl⟩⟩) | (go_at_call 113; refine (civil_Days.calls _ _ _ _ _ hD.out).mono ?_; rintro e w1 ⟨rfl, HB1⟩) | (go_at_call 112; refine (hO _).out.mono ?_; rintro e w2 ⟨rfl, HB2⟩))
        go_quiet (fail)
        go_wp2_with fail
        refine bodyPost_ret (results_list (rs := [.tmp 10, .tmp 11, .tmp 12, .tmp 13]) rfl (by simp) (.tmp (.tmp (.tmp (.tmp .nil))))) rfl ?_
        exact ⟨congrArg Ending.returned (by rw [hV.out]; rfl), by have HB := below_then (below_then (pw_below_drewN (Below.refl _ _) _) (Nat.le_refl _) HB1) HB1.size HB2; repeat (first | exact HB | apply below_alloc | apply pw_below_drewN | apply below_drew1 | refine below_set ?_ HB.size)⟩
  · have hN1 := Lib.hid (show N = daysOf q (r + 1) L + a4 by rw [hN.out, if_neg c])
    clear hN
    have hD := Lib.hid (show civil_Days.f q (r + 1) L = some (daysOf q (r + 1) L) by unfold civil_Days.f; rw [if_pos ⟨by omega, by omega, by omega, by omega, by omega, by omega⟩])
    obtain ⟨hk0, hk1⟩ := days_bd q (r + 1) L (by omega) (by omega) (by omega) (by omega) (by omega) (by omega)
    generalize daysOf q (r + 1) L = k at *
    obtain rfl := hN1.out
    clear hN1
    have hO := fun w => Lib.hid (on_calls (k + a4) w (by omega) (by omega))
    generalize civY (k + a4) = Y at *
    generalize civM (k + a4) = M at *
    generalize civD (k + a4) = D at *
    by_cases hY1 : Y < 1
    · have hV := Lib.hid (show addV Y M D = .tuple #[.int .i64 0, .int .i64 0, .int .i64 0, .bool false] by unfold addV; rw [if_pos (Or.inl hY1)])
      go_enter Try.func96, Try.ntmps96
      go_wp2_with (first | (go_at_call 111; refine (civil_floor.calls _ _ _ _ _ hF.out).mono ?_; rintro e w' ⟨rfl, ⟨nd, rfl⟩⟩) | (go_at_call 108; refine (civil_Length.calls _ _ _ _ hL.out).mono ?_; rintro e w' ⟨rfl, ⟨nd, rfl⟩⟩) | (go_at_call 113; refine (civil_Days.calls _ _ _ _ _ hD.out).mono ?_; rintro e w1 ⟨rfl, HB1⟩) | (go_at_call 112; refine (hO _).out.mono ?_; rintro e w2 ⟨rfl, HB2⟩))
      refine bodyPost_ret (results_list (rs := [.tmp 10, .tmp 11, .tmp 12, .tmp 13]) rfl (by simp) (.tmp (.tmp (.tmp (.tmp .nil))))) rfl ?_
      exact ⟨congrArg Ending.returned (by rw [hV.out]; rfl), by have HB := below_then (below_then (pw_below_drewN (Below.refl _ _) _) (Nat.le_refl _) HB1) HB1.size HB2; repeat (first | exact HB | apply below_alloc | apply pw_below_drewN | apply below_drew1 | refine below_set ?_ HB.size)⟩
    · by_cases hY2 : 9999 < Y
      · have hV := Lib.hid (show addV Y M D = .tuple #[.int .i64 0, .int .i64 0, .int .i64 0, .bool false] by unfold addV; rw [if_pos (Or.inr hY2)])
        go_enter Try.func96, Try.ntmps96
        go_wp2_with (first | (go_at_call 111; refine (civil_floor.calls _ _ _ _ _ hF.out).mono ?_; rintro e w' ⟨rfl, ⟨nd, rfl⟩⟩) | (go_at_call 108; refine (civil_Length.calls _ _ _ _ hL.out).mono ?_; rintro e w' ⟨rfl, ⟨nd, rfl⟩⟩) | (go_at_call 113; refine (civil_Days.calls _ _ _ _ _ hD.out).mono ?_; rintro e w1 ⟨rfl, HB1⟩) | (go_at_call 112; refine (hO _).out.mono ?_; rintro e w2 ⟨rfl, HB2⟩))
        refine bodyPost_ret (results_list (rs := [.tmp 10, .tmp 11, .tmp 12, .tmp 13]) rfl (by simp) (.tmp (.tmp (.tmp (.tmp .nil))))) rfl ?_
        exact ⟨congrArg Ending.returned (by rw [hV.out]; rfl), by have HB := below_then (below_then (pw_below_drewN (Below.refl _ _) _) (Nat.le_refl _) HB1) HB1.size HB2; repeat (first | exact HB | apply below_alloc | apply pw_below_drewN | apply below_drew1 | refine below_set ?_ HB.size)⟩
      · have hV := Lib.hid (show addV Y M D = .tuple #[.int .i64 Y, .int .i64 M, .int .i64 D, .bool true] by unfold addV; rw [if_neg (by omega)])
        go_enter Try.func96, Try.ntmps96
        go_wp2_with (first | (go_at_call 111; refine (civil_floor.calls _ _ _ _ _ hF.out).mono ?_; rintro e w' ⟨rfl, ⟨nd, rfl⟩⟩) | (go_at_call 108; refine (civil_Length.calls _ _ _ _ hL.out).mono ?_; rintro e w' ⟨rfl, ⟨nd, rfl⟩⟩) | (go_at_call 113; refine (civil_Days.calls _ _ _ _ _ hD.out).mono ?_; rintro e w1 ⟨rfl, HB1⟩) | (go_at_call 112; refine (hO _).out.mono ?_; rintro e w2 ⟨rfl, HB2⟩))
        go_quiet (fail)
        go_wp2_with fail
        refine bodyPost_ret (results_list (rs := [.tmp 10, .tmp 11, .tmp 12, .tmp 13]) rfl (by simp) (.tmp (.tmp (.tmp (.tmp .nil))))) rfl ?_
        exact ⟨congrArg Ending.returned (by rw [hV.out]; rfl), by have HB := below_then (below_then (pw_below_drewN (Below.refl _ _) _) (Nat.le_refl _) HB1) HB1.size HB2; repeat (first | exact HB | apply below_alloc | apply pw_below_drewN | apply below_drew1 | refine below_set ?_ HB.size)⟩

set_option maxHeartbeats 8000000 in
set_option maxRecDepth 100000 in
theorem civil_Add.calls (a0 : Int) (a1 : Int) (a2 : Int) (a3 : Int) (a4 : Int) (r1 : Int) (r2 : Int) (r3 : Int) (r4 : Bool) (w : World) (h : civil_Add.f a0 a1 a2 a3 a4 = some (r1, r2, r3, r4)) :
    Calls Try.prog 96 #[.int .i64 a0, .int .i64 a1, .int .i64 a2, .int .i64 a3, .int .i64 a4] w fun e w' => e = .returned (.tuple #[.int .i64 r1, .int .i64 r2, .int .i64 r3, .bool r4]) ∧ Below w.heap.size w w' := by
  unfold civil_Add.f at h
  by_cases ho : a3 < -1000000 ∨ 1000000 < a3 ∨ a4 < -10000000 ∨ 10000000 < a4
  · rw [if_pos ho] at h
    simp only [Option.some.injEq, Prod.mk.injEq] at h
    obtain ⟨rfl, rfl, rfl, rfl⟩ := h
    exact add_out a0 a1 a2 a3 a4 w ho
  · rw [if_neg ho] at h
    by_cases hb : -100000 ≤ a0 ∧ a0 ≤ 100000 ∧ 1 ≤ a1 ∧ a1 ≤ 12 ∧ -1000000 ≤ a2 ∧ a2 ≤ 1000000
    · rw [if_pos hb] at h
      obtain ⟨b1, b2, b3, b4, b5, b6⟩ := hb
      have hA := add_in a0 a1 a2 a3 a4 w (by omega) (by omega) (by omega) (by omega) b1 b2 b3 b4 b5 b6
      have e : addV (civY (addN a0 a1 a2 a3 a4)) (civM (addN a0 a1 a2 a3 a4)) (civD (addN a0 a1 a2 a3 a4)) = .tuple #[.int .i64 r1, .int .i64 r2, .int .i64 r3, .bool r4] := by
        unfold addV
        split at h <;> rename_i hc
        · simp only [Option.some.injEq, Prod.mk.injEq] at h
          obtain ⟨rfl, rfl, rfl, rfl⟩ := h
          rw [if_pos hc]
        · simp only [Option.some.injEq, Prod.mk.injEq] at h
          obtain ⟨rfl, rfl, rfl, rfl⟩ := h
          rw [if_neg hc]
      rw [e] at hA
      exact hA
    · rw [if_neg hb] at h
      cases h


end Go.Proofs.Ytldfljlklfhjkaa.PMv
