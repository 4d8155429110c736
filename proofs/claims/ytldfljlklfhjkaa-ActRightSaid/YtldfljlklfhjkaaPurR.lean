/- Whether any value may be is the document's: the plain statement behind the row. Conditions: none. -/
import Derived.Test.YtldfljlklfhjkaaPurD
import Derived.Test.YtldfljlklfhjkaaPurM
namespace Go.Proofs.Ytldfljlklfhjkaa.PE
open Go.RowKit Go.Proofs.YtldfljlklfhjkaaW.PrintWords Go.Proofs.YtldfljlklfhjkaaW.PrintLast Go.Proofs.YtldfljlklfhjkaaW.PrintMore
set_option linter.unusedVariables false
set_option linter.unusedSimpArgs false
namespace Ev
theorem bm_t {γ : Type} (x y : γ) : bm true x y = x := rfl
theorem bm_f {γ : Type} (x y : γ) : bm false x y = y := rfl
theorem bm_id (b : Bool) : bm b (some true) (some false) = some b := by cases b <;> rfl
/-! ### Days and times -/
theorem rday_is (a b c : Int) : ref1_Day.F (a, b, c) = some (rightB a b c 0 0 0) := by
  have h : ∀ x : Bool, (x = true ↔ (1 ≤ a ∧ a ≤ 9999 ∧ 1 ≤ b ∧ b ≤ 12 ∧ 1 ≤ c ∧ c ≤ lenOf a b)) → x = rightB a b c 0 0 0 := fun x hx => by
    unfold rightB
    rw [Bool.eq_iff_iff, hx, decide_eq_true_iff]
    omega
  unfold ref1_Day.F ref1_Day.t
  simp only [interlocutorref1_Length.F, rlength_of, Option.bind_some]
  repeat' split
  all_goals
    congr 1
    apply h
    simp
    omega
theorem clock_is (a b c : Int) : interlocutorref1_Clock.F (a, b, c) = some (rightB 1 1 1 a b c) := by
  have h1 : lenOf 1 1 = 31 := by kernel_rfl
  have h : ∀ x : Bool, (x = true ↔ (0 ≤ a ∧ a ≤ 23 ∧ 0 ≤ b ∧ b ≤ 59 ∧ 0 ≤ c ∧ c ≤ 59)) → x = rightB 1 1 1 a b c := fun x hx => by
    unfold rightB
    rw [Bool.eq_iff_iff, hx, decide_eq_true_iff, h1]
    omega
  show interlocutorref1_Clock.f a b c = _
  unfold interlocutorref1_Clock.f
  repeat' split
  all_goals
    congr 1
    apply h
    simp
    omega
theorem day_three (f : List Int) (h : 3 ≤ f.length) : act_day.F f = some (rightB (rd f 0) (rd f 1) (rd f 2) 0 0 0) := by
  unfold act_day.F act_day.t
  rw [if_pos (by omega), if_pos (by omega), if_pos (by omega)]
  simp only [civil_Right.F, Option.bind_some, bm_id]
theorem time_three (f : List Int) (h : 3 ≤ f.length) : act_time.F f = some (rightB 1 1 1 (rd f 0) (rd f 1) (rd f 2)) := by
  unfold act_time.F act_time.t
  rw [if_pos (by omega), if_pos (by omega), if_pos (by omega)]
  simp only [civil_Right.F, Option.bind_some, bm_id]
theorem right_valid {y m d : Int} (h : rightB y m d 0 0 0 = true) : 1 ≤ y ∧ y ≤ 9999 ∧ Valid y m d := by
  unfold rightB at h
  rw [decide_eq_true_iff] at h
  exact ⟨by omega, by omega, by omega, by omega, by omega, by omega⟩
/-! ### Decimals -/
theorem rnorm_is : ∀ (q : Nat) (k : Nat) (p : Int), q < k → -1000000000000000000 < p → p < 1000000000000000000 → q ≤ 18 → interlocutorref2_Norm.l0 k p q = some (normN q p)
  | 0, 0, p, h, _, _, _ => absurd h (by omega)
  | 0, k + 1, p, _, _, _, _ => by simp [interlocutorref2_Norm.l0, normN]
  | q + 1, 0, p, h, _, _, _ => absurd h (by omega)
  | q + 1, k + 1, p, h, h0, h1, hq => by
    unfold interlocutorref2_Norm.l0 normN
    rw [if_pos (by omega)]
    by_cases c : p % 10 = 0
    · rw [if_pos ((tmod10' p).2 c), if_pos c, tdiv10 p c, wrap_id (p / 10) (by omega) (by omega), show wrap64 (((q + 1 : Nat) : Int) - 1) = (q : Int) by rw [wrap_id _ (by omega) (by omega)]; omega]
      exact rnorm_is q k (p / 10) (by omega) (by omega) (by omega) (by omega)
    · rw [if_neg (fun h => c ((tmod10' p).1 h)), if_neg c]
theorem decimal_is (a b : Int) : ∃ r, act_decimal.F [a, b] = some r ∧ interlocutorref2_Right.F (a, b) = some r := by
  show ∃ r, act_decimal.F [a, b] = some r ∧ interlocutorref2_Right.f 100 a b = some r
  have e0 : rd [a, b] 0 = a := rfl
  have e1 : rd [a, b] 1 = b := rfl
  unfold act_decimal.F act_decimal.t interlocutorref2_Right.f
  simp only [e0, e1, List.length_cons, List.length_nil]
  rw [if_pos (by omega)]
  by_cases c0 : a ≤ -1000000000000000000
  · rw [if_pos c0, if_pos c0]; exact ⟨_, rfl, rfl⟩
  rw [if_neg c0, if_neg c0, if_pos (by omega)]
  by_cases c1 : a ≥ 1000000000000000000
  · rw [if_pos c1, if_pos c1]; exact ⟨_, rfl, rfl⟩
  rw [if_neg c1, if_neg c1, if_pos (by omega)]
  by_cases c2 : b < 0
  · rw [if_pos c2, if_pos c2]; exact ⟨_, rfl, rfl⟩
  rw [if_neg c2, if_neg c2, if_pos (by omega)]
  by_cases c3 : b > 18
  · rw [if_pos c3, if_pos c3]; exact ⟨_, rfl, rfl⟩
  rw [if_neg c3, if_neg c3, if_pos (by omega), if_pos (by omega)]
  obtain ⟨q, rfl⟩ := Int.eq_ofNat_of_zero_le (show 0 ≤ b by omega)
  have hN : dec_Norm.F (a, (q : Int)) = some (normN q a) := by
    show dec_Norm.f a (q : Int) = _
    unfold dec_Norm.f
    rw [if_pos (by omega), Int.toNat_natCast]
  have hR : interlocutorref2_Norm.f 100 a (q : Int) = some (normN q a) := rnorm_is q 100 a (by omega) (by omega) (by omega) (by omega)
  rw [hN, hR]
  simp only [Option.bind_some]
  rw [if_pos (by omega)]
  by_cases c4 : (normN q a).1 = a
  · rw [if_pos c4, if_pos c4, if_pos (by omega)]
    by_cases c5 : (normN q a).2 = (q : Int)
    · rw [if_pos c5]; exact ⟨_, rfl, by rw [beq_iff_eq.mpr c5]⟩
    · rw [if_neg c5]; exact ⟨_, rfl, by rw [beq_eq_false_iff_ne.mpr c5]⟩
  · rw [if_neg c4, if_neg c4]; exact ⟨_, rfl, rfl⟩
/-! ### Spans -/
theorem comp_is (a b : Int) : cmp_Compare.F (a, b) = some (if a < b then -1 else if a > b then 1 else 0) := by
  have hn : ∀ x, cmp_isNaN.F x = some false := fun x => by unfold cmp_isNaN.F cmp_isNaN.t; rw [if_pos rfl]
  unfold cmp_Compare.F cmp_Compare.t
  simp only [hn, Option.bind_some, bm_f]
  repeat' split
  all_goals rfl
theorem compare_is (a b c d e f : Int) : ∃ t, slices_Compare.F ([a, b, c], [d, e, f]) = some t ∧ (t ≤ 0 ↔ (a < d ∨ a = d ∧ (b < e ∨ b = e ∧ c ≤ f))) := by
  have g0 : rd [a, b, c] 0 = a := rfl
  have g1 : rd [a, b, c] 1 = b := rfl
  have g2 : rd [a, b, c] 2 = c := rfl
  have k0 : rd [d, e, f] 0 = d := rfl
  have k1 : rd [d, e, f] 1 = e := rfl
  have k2 : rd [d, e, f] 2 = f := rfl
  unfold slices_Compare.F slices_Compare.t
  simp only [g0, g1, g2, k0, k1, k2, comp_is, List.length_cons, List.length_nil, Option.bind_some]
  rw [if_pos (by omega), if_pos (by omega), if_neg (by omega), if_pos (by omega)]
  by_cases c1 : a < d
  · simp only [if_pos c1]; rw [if_neg (by omega)]; exact ⟨_, rfl, by omega⟩
  simp only [if_neg c1]
  by_cases c2 : a > d
  · simp only [if_pos c2]; rw [if_neg (by omega)]; exact ⟨_, rfl, by omega⟩
  simp only [if_neg c2]
  rw [if_pos trivial, if_pos (by omega), if_pos (by omega), if_neg (by omega), if_pos (by omega)]
  by_cases c3 : b < e
  · simp only [if_pos c3]; rw [if_neg (by omega)]; exact ⟨_, rfl, by omega⟩
  simp only [if_neg c3]
  by_cases c4 : b > e
  · simp only [if_pos c4]; rw [if_neg (by omega)]; exact ⟨_, rfl, by omega⟩
  simp only [if_neg c4]
  rw [if_pos trivial, if_pos (by omega), if_pos (by omega), if_neg (by omega), if_pos (by omega)]
  by_cases c5 : c < f
  · simp only [if_pos c5]; rw [if_neg (by omega)]; exact ⟨_, rfl, by omega⟩
  simp only [if_neg c5]
  by_cases c6 : c > f
  · simp only [if_pos c6]; rw [if_neg (by omega)]; exact ⟨_, rfl, by omega⟩
  simp only [if_neg c6]
  rw [if_pos trivial, if_neg (by omega), if_neg (by omega)]
  exact ⟨_, rfl, by omega⟩
/-! ### Both tell the same -/
theorem same (v : S27) : ∃ b, act_Right.F v = some b ∧ ref8_Right.F v = some b := by
  obtain ⟨k, f⟩ := v
  by_cases c0 : k < 4
  · refine ⟨false, ?_, ?_⟩
    · unfold act_Right.F act_Right.t
      have : act_fields.F k = some (-1) := by unfold act_fields.F act_fields.t; rw [if_pos c0]
      simp only [this, Option.bind_some]
      rw [if_neg (by omega)]
    · unfold ref8_Right.F ref8_Right.t
      rw [if_pos c0]
  by_cases c1 : k > 10
  · refine ⟨false, ?_, ?_⟩
    · unfold act_Right.F act_Right.t
      have : act_fields.F k = some (-1) := by unfold act_fields.F act_fields.t; rw [if_neg c0, if_pos c1]
      simp only [this, Option.bind_some]
      rw [if_neg (by omega)]
    · unfold ref8_Right.F ref8_Right.t
      rw [if_neg c0, if_pos c1]
  have hno : ∀ n, act_fields.F k = some n → ref8_fields.F k = some n → ¬ (f.length : Int) = n → ∃ b, act_Right.F ⟨k, f⟩ = some b ∧ ref8_Right.F ⟨k, f⟩ = some b := fun n h1 h2 h3 => by
    refine ⟨false, ?_, ?_⟩
    · unfold act_Right.F act_Right.t
      simp only [h1, Option.bind_some]
      rw [if_neg h3]
    · unfold ref8_Right.F ref8_Right.t
      simp only [h2, Option.bind_some]
      rw [if_neg c0, if_neg c1, if_neg h3]
  by_cases h4 : k = 4
  · subst h4
    have e1 : act_fields.F 4 = some 3 := by kernel_rfl
    have e2 : ref8_fields.F 4 = some 3 := by kernel_rfl
    by_cases hl : (f.length : Int) = 3
    · unfold act_Right.F act_Right.t ref8_Right.F ref8_Right.t
      simp only [e1, e2, Option.bind_some, day_three f (by omega), rday_is, clock_is, bm_id]
      rw [if_neg c0, if_neg c1, if_pos hl, if_pos hl, if_pos trivial, if_pos trivial, if_pos (by omega), if_pos (by omega), if_pos (by omega)]
      exact ⟨_, rfl, rfl⟩
    · exact hno 3 e1 e2 hl
  by_cases h5 : k = 5
  · subst h5
    have e1 : act_fields.F 5 = some 3 := by kernel_rfl
    have e2 : ref8_fields.F 5 = some 3 := by kernel_rfl
    by_cases hl : (f.length : Int) = 3
    · unfold act_Right.F act_Right.t ref8_Right.F ref8_Right.t
      simp only [e1, e2, Option.bind_some, time_three f (by omega), rday_is, clock_is, bm_id]
      rw [if_neg c0, if_neg c1, if_pos hl, if_pos hl, if_neg h4, if_neg h4, if_pos trivial, if_pos trivial, if_pos (by omega), if_pos (by omega), if_pos (by omega)]
      exact ⟨_, rfl, rfl⟩
    · exact hno 3 e1 e2 hl
  by_cases h6 : k = 6
  · subst h6
    have e1 : act_fields.F 6 = some 6 := by kernel_rfl
    have e2 : ref8_fields.F 6 = some 6 := by kernel_rfl
    by_cases hl : (f.length : Int) = 6
    · match f, hl with
      | [x0, x1, x2, x3, x4, x5], _ =>
        unfold act_Right.F act_Right.t ref8_Right.F ref8_Right.t
        have d3 : List.drop 3 [x0, x1, x2, x3, x4, x5] = [x3, x4, x5] := rfl
        simp only [e1, e2, Option.bind_some, day_three [x0, x1, x2, x3, x4, x5] (by simp), d3, time_three [x3, x4, x5] (by simp), rday_is, clock_is, bm_id, List.length_cons, List.length_nil]
        have q0 : (0 : Int) < ((0 + 1 + 1 + 1 + 1 + 1 + 1 : Nat) : Int) := by omega
        have q1 : (1 : Int) < ((0 + 1 + 1 + 1 + 1 + 1 + 1 : Nat) : Int) := by omega
        have q2 : (2 : Int) < ((0 + 1 + 1 + 1 + 1 + 1 + 1 : Nat) : Int) := by omega
        have q3 : (3 : Int) < ((0 + 1 + 1 + 1 + 1 + 1 + 1 : Nat) : Int) := by omega
        have q4 : (4 : Int) < ((0 + 1 + 1 + 1 + 1 + 1 + 1 : Nat) : Int) := by omega
        have q5 : (5 : Int) < ((0 + 1 + 1 + 1 + 1 + 1 + 1 : Nat) : Int) := by omega
        have q6 : (3 : Int) ≤ ((0 + 1 + 1 + 1 + 1 + 1 + 1 : Nat) : Int) := by omega
        have qL : ((0 + 1 + 1 + 1 + 1 + 1 + 1 : Nat) : Int) = 6 := by omega
        rw [if_neg c0, if_neg c1, if_pos qL, if_pos qL, if_neg h4, if_neg h4, if_neg h5, if_neg h5, if_pos trivial, if_pos trivial]
        simp only [if_pos q0, if_pos q1, if_pos q2, if_pos q3, if_pos q4, if_pos q5, if_pos q6]
        cases rightB (rd [x0, x1, x2, x3, x4, x5] 0) (rd [x0, x1, x2, x3, x4, x5] 1) (rd [x0, x1, x2, x3, x4, x5] 2) 0 0 0 <;> exact ⟨_, rfl, rfl⟩
    · exact hno 6 e1 e2 hl
  by_cases h7 : k = 7
  · subst h7
    have e1 : act_fields.F 7 = some 2 := by kernel_rfl
    have e2 : ref8_fields.F 7 = some 2 := by kernel_rfl
    by_cases hl : (f.length : Int) = 2
    · match f, hl with
      | [x0, x1], _ =>
        obtain ⟨r, hr1, hr2⟩ := decimal_is x0 x1
        have g0 : rd [x0, x1] 0 = x0 := rfl
        have g1 : rd [x0, x1] 1 = x1 := rfl
        unfold act_Right.F act_Right.t ref8_Right.F ref8_Right.t
        simp only [e1, e2, Option.bind_some, hr1, hr2, bm_id, g0, g1, List.length_cons, List.length_nil]
        have q0 : (0 : Int) < ((0 + 1 + 1 : Nat) : Int) := by omega
        have q1 : (1 : Int) < ((0 + 1 + 1 : Nat) : Int) := by omega
        have qL : ((0 + 1 + 1 : Nat) : Int) = 2 := by omega
        rw [if_neg c0, if_neg c1, if_pos qL, if_pos qL, if_neg h4, if_neg h4, if_neg h5, if_neg h5, if_neg h6, if_neg h6, if_pos trivial, if_pos trivial]
        simp only [if_pos q0, if_pos q1]
        exact ⟨_, rfl, rfl⟩
    · exact hno 2 e1 e2 hl
  by_cases h8 : k = 8
  · subst h8
    have e1 : act_fields.F 8 = some 2 := by kernel_rfl
    have e2 : ref8_fields.F 8 = some 2 := by kernel_rfl
    by_cases hl : (f.length : Int) = 2
    · unfold act_Right.F act_Right.t ref8_Right.F ref8_Right.t
      simp only [e1, e2, Option.bind_some]
      rw [if_neg c0, if_neg c1, if_pos hl, if_pos hl, if_neg h4, if_neg h4, if_neg h5, if_neg h5, if_neg h6, if_neg h6, if_neg h7, if_neg h7, if_pos trivial, if_pos trivial]
      have g0 : (0 : Int) < f.length := by omega
      have g1 : (1 : Int) < f.length := by omega
      simp only [if_pos g0, if_pos g1]
      repeat' split
      all_goals exact ⟨_, rfl, rfl⟩
    · exact hno 2 e1 e2 hl
  by_cases h9 : k = 9
  · subst h9
    have e1 : act_fields.F 9 = some 1 := by kernel_rfl
    have e2 : ref8_fields.F 9 = some 1 := by kernel_rfl
    by_cases hl : (f.length : Int) = 1
    · unfold act_Right.F act_Right.t ref8_Right.F ref8_Right.t
      simp only [e1, e2, Option.bind_some]
      rw [if_neg c0, if_neg c1, if_pos hl, if_pos hl, if_neg h4, if_neg h4, if_neg h5, if_neg h5, if_neg h6, if_neg h6, if_neg h7, if_neg h7, if_neg h8, if_neg h8, if_pos trivial, if_pos trivial]
      have g0 : (0 : Int) < f.length := by omega
      simp only [if_pos g0]
      repeat' split
      all_goals exact ⟨_, rfl, rfl⟩
    · exact hno 1 e1 e2 hl
  obtain rfl : k = 10 := by omega
  have e1 : act_fields.F 10 = some 6 := by kernel_rfl
  have e2 : ref8_fields.F 10 = some 6 := by kernel_rfl
  by_cases hl : (f.length : Int) = 6
  · match f, hl with
    | [x0, x1, x2, x3, x4, x5], _ =>
      unfold act_Right.F act_Right.t ref8_Right.F ref8_Right.t
      have d3 : List.drop 3 [x0, x1, x2, x3, x4, x5] = [x3, x4, x5] := rfl
      have t3 : List.take 3 [x0, x1, x2, x3, x4, x5] = [x0, x1, x2] := rfl
      have g0 : rd [x0, x1, x2, x3, x4, x5] 0 = x0 := rfl
      have g1 : rd [x0, x1, x2, x3, x4, x5] 1 = x1 := rfl
      have g2 : rd [x0, x1, x2, x3, x4, x5] 2 = x2 := rfl
      have g3 : rd [x0, x1, x2, x3, x4, x5] 3 = x3 := rfl
      have g4 : rd [x0, x1, x2, x3, x4, x5] 4 = x4 := rfl
      have g5 : rd [x0, x1, x2, x3, x4, x5] 5 = x5 := rfl
      have k0 : rd [x3, x4, x5] 0 = x3 := rfl
      have k1 : rd [x3, x4, x5] 1 = x4 := rfl
      have k2 : rd [x3, x4, x5] 2 = x5 := rfl
      simp only [e1, e2, Option.bind_some, day_three [x0, x1, x2, x3, x4, x5] (by simp), d3, t3, day_three [x3, x4, x5] (by simp), rday_is, clock_is, bm_id, g0, g1, g2, g3, g4, g5, k0, k1, k2, List.length_cons, List.length_nil]
      have q0 : (0 : Int) < ((0 + 1 + 1 + 1 + 1 + 1 + 1 : Nat) : Int) := by omega
      have q1 : (1 : Int) < ((0 + 1 + 1 + 1 + 1 + 1 + 1 : Nat) : Int) := by omega
      have q2 : (2 : Int) < ((0 + 1 + 1 + 1 + 1 + 1 + 1 : Nat) : Int) := by omega
      have q3 : (3 : Int) < ((0 + 1 + 1 + 1 + 1 + 1 + 1 : Nat) : Int) := by omega
      have q4 : (4 : Int) < ((0 + 1 + 1 + 1 + 1 + 1 + 1 : Nat) : Int) := by omega
      have q5 : (5 : Int) < ((0 + 1 + 1 + 1 + 1 + 1 + 1 : Nat) : Int) := by omega
      have q6 : (3 : Int) ≤ ((0 + 1 + 1 + 1 + 1 + 1 + 1 : Nat) : Int) := by omega
      have qL : ((0 + 1 + 1 + 1 + 1 + 1 + 1 : Nat) : Int) = 6 := by omega
      rw [if_neg c0, if_neg c1, if_pos qL, if_pos qL, if_neg h4, if_neg h4, if_neg h5, if_neg h5, if_neg h6, if_neg h6, if_neg h7, if_neg h7, if_neg h8, if_neg h8, if_neg h9, if_neg h9]
      simp only [if_pos q0, if_pos q1, if_pos q2, if_pos q3, if_pos q4, if_pos q5, if_pos q6]
      cases ha : rightB x0 x1 x2 0 0 0 with
      | false => exact ⟨_, rfl, rfl⟩
      | true =>
        cases hb : rightB x3 x4 x5 0 0 0 with
        | false => exact ⟨_, rfl, rfl⟩
        | true =>
          obtain ⟨y0, y1, va⟩ := right_valid ha
          obtain ⟨z0, z1, vb⟩ := right_valid hb
          obtain ⟨t, ht, hi⟩ := compare_is x0 x1 x2 x3 x4 x5
          have r1 : interlocutorref1_Days.F (x0, x1, x2) = some (daysOf x0 x1 x2) := rdays_far (by omega) (by omega) va
          have r2 : interlocutorref1_Days.F (x3, x4, x5) = some (daysOf x3 x4 x5) := rdays_far (by omega) (by omega) vb
          simp only [ht, r1, r2, Option.bind_some, bm_t]
          have hd := days_iff va vb
          by_cases c : t ≤ 0
          · rw [if_pos c, if_pos (hd.2 (hi.1 c))]; exact ⟨_, rfl, rfl⟩
          · rw [if_neg c, if_neg (fun h => c (hi.2 (hd.1 h)))]; exact ⟨_, rfl, rfl⟩
  · exact hno 6 e1 e2 hl
/-! ### A value that may be -/
theorem day_ok (a : Int) : ∃ y m d, interlocutorlaw1_Day.F (a, false) = some (y, m, d) ∧ rightB y m d 0 0 0 = true := by
  obtain ⟨x, hx, x0, x1⟩ := within1_is (wrap64 (Int.tdiv a 400)) 9999 (by omega) (by omega)
  obtain ⟨y, hy, y0, y1⟩ := within1_is a 12 (by omega) (by omega)
  have hb := len_bd (1 + x) (1 + y)
  obtain ⟨z, hz, z0, z1⟩ := within1_is (wrap64 (Int.tdiv a 12)) (lenOf (1 + x) (1 + y)) (by omega) (by omega)
  refine ⟨1 + x, 1 + y, 1 + z, ?_, ?_⟩
  · show interlocutorlaw1_Day.f a false = _
    unfold interlocutorlaw1_Day.f
    simp only [hx, hy, Option.bind_some, wrap_id (1 + x) (by omega) (by omega), wrap_id (1 + y) (by omega) (by omega), rlength_of, hz, wrap_id (1 + z) (by omega) (by omega), Bool.false_eq_true, if_false]
  · unfold rightB
    rw [decide_eq_true_iff]
    omega
theorem right_day {y m d : Int} (h : rightB y m d 0 0 0 = true) : act_Right.F ⟨4, [y, m, d]⟩ = some true := by
  unfold act_Right.F act_Right.t
  have e1 : act_fields.F 4 = some 3 := by kernel_rfl
  have qL : ((0 + 1 + 1 + 1 : Nat) : Int) = 3 := by omega
  simp only [e1, Option.bind_some, day_three [y, m, d] (by simp), bm_id, List.length_cons, List.length_nil]
  rw [if_pos qL, if_pos trivial]
  exact congrArg some h
theorem right_time {a b c : Int} (h : 0 ≤ a ∧ a ≤ 23 ∧ 0 ≤ b ∧ b ≤ 59 ∧ 0 ≤ c ∧ c ≤ 59) : rightB 1 1 1 a b c = true := by
  have h1 : lenOf 1 1 = 31 := by kernel_rfl
  unfold rightB
  rw [decide_eq_true_iff, h1]
  omega
theorem right_ref {v : S27} (h : ref8_Right.F v = some true) : act_Right.F v = some true := by
  obtain ⟨b, h1, h2⟩ := same v
  rw [h1, ← h2, h]
set_option maxRecDepth 100000 in
theorem value_dn' (n0 a b : Int) (x y : Int × Int × Int) (p q : Int) (hw : interlocutorlaw8_within.F (n0, 7) = some 3) (hx : interlocutorlaw1_Day.F (a, false) = some x) (hy : interlocutorlaw1_Day.F (b, false) = some y) (hm : interlocutorlaw2_Make.F (a, b) = some (p, q)) : law8_Value.F (n0, a, b) = dn 20 p q := by
  unfold law8_Value.F law8_Value.t
  have h7 : wrap64 (4 + 3) = 7 := by kernel_rfl
  rw [hx, hy, hw]
  simp only [Option.bind_some, h7]
  rw [if_neg (by decide), if_neg (by decide), if_neg (by decide), if_pos trivial, hm, Option.bind_some]
  show _ = dn 20 p q
  kernel_rfl
set_option maxRecDepth 100000 in
/-- Whatever Value tells is right. -/
theorem value_ok (n a b : Int) : ∃ v, law8_Value.F (n, a, b) = some v ∧ act_Right.F v = some true ∧ 1 ≤ v.f1.length ∧ v.f1.length ≤ 6 := by
  obtain ⟨y, m, d, hx, vx⟩ := day_ok a
  obtain ⟨y', m', d', hy, vy⟩ := day_ok b
  obtain ⟨k, hk, k0, k1⟩ := within_is n 7 (by omega) (by omega)
  have w4 : wrap64 (4 + 0) = 4 := by kernel_rfl
  have w5 : wrap64 (4 + 1) = 5 := by kernel_rfl
  have w6 : wrap64 (4 + 2) = 6 := by kernel_rfl
  have w8 : wrap64 (4 + 4) = 8 := by kernel_rfl
  have w9 : wrap64 (4 + 5) = 9 := by kernel_rfl
  have w10 : wrap64 (4 + 6) = 10 := by kernel_rfl
  rcases (show k = 0 ∨ k = 1 ∨ k = 2 ∨ k = 3 ∨ k = 4 ∨ k = 5 ∨ k = 6 by omega) with rfl | rfl | rfl | rfl | rfl | rfl | rfl
  · refine ⟨⟨4, [y, m, d]⟩, ?_, right_day vx, by simp, by simp⟩
    unfold law8_Value.F law8_Value.t
    rw [hx, hy, hk, Option.bind_some, Option.bind_some, Option.bind_some, w4, if_pos rfl]
  · obtain ⟨p, hp, p0, p1⟩ := within_is a 24 (by omega) (by omega)
    obtain ⟨q, hq, q0, q1⟩ := within_is b 60 (by omega) (by omega)
    obtain ⟨r, hr, r0, r1⟩ := within_is (wrap64 (Int.tdiv a 24)) 60 (by omega) (by omega)
    refine ⟨⟨5, [p, q, r]⟩, ?_, ?_, by simp, by simp⟩
    · unfold law8_Value.F law8_Value.t
      rw [hx, hy, hk, Option.bind_some, Option.bind_some, Option.bind_some, w5, if_neg (by decide), if_pos rfl, hp, Option.bind_some, hq, Option.bind_some, hr, Option.bind_some]
    · unfold act_Right.F act_Right.t
      have e1 : act_fields.F 5 = some 3 := by kernel_rfl
      have qL : ((0 + 1 + 1 + 1 : Nat) : Int) = 3 := by omega
      simp only [e1, Option.bind_some, time_three [p, q, r] (by simp), bm_id, List.length_cons, List.length_nil]
      rw [if_pos qL, if_neg (by decide), if_pos trivial]
      have h2 : rightB 1 1 1 p q r = true := right_time ⟨p0, by omega, q0, by omega, r0, by omega⟩
      exact congrArg some h2
  · obtain ⟨p, hp, p0, p1⟩ := within_is b 24 (by omega) (by omega)
    obtain ⟨q, hq, q0, q1⟩ := within_is (wrap64 (Int.tdiv b 24)) 60 (by omega) (by omega)
    obtain ⟨r, hr, r0, r1⟩ := within_is (wrap64 (Int.tdiv b 1440)) 60 (by omega) (by omega)
    refine ⟨⟨6, [y, m, d, p, q, r]⟩, ?_, ?_, by simp, by simp⟩
    · unfold law8_Value.F law8_Value.t
      rw [hx, hy, hk, Option.bind_some, Option.bind_some, Option.bind_some, w6, if_neg (by decide), if_neg (by decide), if_pos rfl, hp, Option.bind_some, hq, Option.bind_some, hr, Option.bind_some]
    · unfold act_Right.F act_Right.t
      have e1 : act_fields.F 6 = some 6 := by kernel_rfl
      have qL : ((0 + 1 + 1 + 1 + 1 + 1 + 1 : Nat) : Int) = 6 := by omega
      have q3 : (3 : Int) ≤ ((0 + 1 + 1 + 1 + 1 + 1 + 1 : Nat) : Int) := by omega
      have d3 : List.drop 3 [y, m, d, p, q, r] = [p, q, r] := rfl
      simp only [e1, Option.bind_some, day_three [y, m, d, p, q, r] (by simp), d3, time_three [p, q, r] (by simp), bm_id, List.length_cons, List.length_nil]
      rw [if_pos qL, if_neg (by decide), if_neg (by decide), if_pos trivial, if_pos q3]
      have h1 : rightB (rd [y, m, d, p, q, r] 0) (rd [y, m, d, p, q, r] 1) (rd [y, m, d, p, q, r] 2) 0 0 0 = true := vx
      rw [h1, bm_t]
      have h2 : rightB 1 1 1 p q r = true := right_time ⟨p0, by omega, q0, by omega, r0, by omega⟩
      exact congrArg some h2
  · obtain ⟨p, q, hm, h0, h1, h2, h3⟩ := make_is a b
    obtain ⟨q, rfl⟩ := Int.eq_ofNat_of_zero_le h2
    obtain ⟨p', q', e, g1, g2, g3, g4⟩ := normN_is q p h0 h1
    refine ⟨⟨7, [p', (q' : Int)]⟩, ?_, right_ref (right_dec p' q' g3 g4 (by omega) g2), by simp, by simp⟩
    rw [value_dn' n a b _ _ p q hk hx hy hm, dn_is q 20 p (by omega) h0 h1 (by omega), e]
  · obtain ⟨p, hp, p0, p1⟩ := within_is b 1000 (by omega) (by omega)
    obtain ⟨q, hq, q0, q1⟩ := within_is b 3 (by omega) (by omega)
    refine ⟨⟨8, [10 * p + q, a.tmod 1000000000000]⟩, ?_, ?_, by simp, by simp⟩
    · unfold law8_Value.F law8_Value.t
      rw [hx, hy, hk, Option.bind_some, Option.bind_some, Option.bind_some, w8, if_neg (by decide), if_neg (by decide), if_neg (by decide), if_neg (by decide), if_pos rfl, hp, Option.bind_some, hq, Option.bind_some, wrap_id (10 * p) (by omega) (by omega), wrap_id (10 * p + q) (by omega) (by omega)]
    · have := Int.lt_tmod_of_pos a (b := 1000000000000) (by omega)
      have := Int.tmod_lt_of_pos a (b := 1000000000000) (by omega)
      exact right_ref (right_money _ _ (by omega) (by omega) (by omega) (by omega))
  · obtain ⟨p, hp, p0, p1⟩ := within_is a 9007199254740992 (by omega) (by omega)
    refine ⟨⟨9, [p]⟩, ?_, ?_, by simp, by simp⟩
    · unfold law8_Value.F law8_Value.t
      rw [hx, hy, hk, Option.bind_some, Option.bind_some, Option.bind_some, w9, if_neg (by decide), if_neg (by decide), if_neg (by decide), if_neg (by decide), if_neg (by decide), if_pos rfl, hp, Option.bind_some]
    · unfold act_Right.F act_Right.t
      have e1 : act_fields.F 9 = some 1 := by kernel_rfl
      have qL : ((0 + 1 : Nat) : Int) = 1 := by omega
      have q0 : (0 : Int) < ((0 + 1 : Nat) : Int) := by omega
      have g0 : rd [p] 0 = p := rfl
      simp only [e1, Option.bind_some, g0, List.length_cons, List.length_nil]
      rw [if_pos qL, if_neg (by decide), if_neg (by decide), if_neg (by decide), if_neg (by decide), if_neg (by decide), if_pos trivial, if_pos q0, if_pos p0, if_pos q0, if_pos (by omega)]
  · obtain ⟨y0, y1, va⟩ := right_valid vx
    obtain ⟨z0, z1, vb⟩ := right_valid vy
    have r1 : interlocutorref1_Days.F (y, m, d) = some (daysOf y m d) := rdays_far (by omega) (by omega) va
    have r2 : interlocutorref1_Days.F (y', m', d') = some (daysOf y' m' d') := rdays_far (by omega) (by omega) vb
    have span : ∀ (y m d y' m' d' : Int), rightB y m d 0 0 0 = true → rightB y' m' d' 0 0 0 = true → Valid y m d → Valid y' m' d' → daysOf y m d ≤ daysOf y' m' d' → act_Right.F ⟨10, [y, m, d, y', m', d']⟩ = some true := by
      intro y m d y' m' d' vx vy va vb hle
      obtain ⟨t, ht, hi⟩ := compare_is y m d y' m' d'
      unfold act_Right.F act_Right.t
      have e1 : act_fields.F 10 = some 6 := by kernel_rfl
      have qL : ((0 + 1 + 1 + 1 + 1 + 1 + 1 : Nat) : Int) = 6 := by omega
      have q3 : (3 : Int) ≤ ((0 + 1 + 1 + 1 + 1 + 1 + 1 : Nat) : Int) := by omega
      have d3 : List.drop 3 [y, m, d, y', m', d'] = [y', m', d'] := rfl
      have t3 : List.take 3 [y, m, d, y', m', d'] = [y, m, d] := rfl
      simp only [e1, Option.bind_some, day_three [y, m, d, y', m', d'] (by simp), d3, t3, day_three [y', m', d'] (by simp), bm_id, ht, List.length_cons, List.length_nil]
      rw [if_pos qL, if_neg (by decide), if_neg (by decide), if_neg (by decide), if_neg (by decide), if_neg (by decide), if_neg (by decide), if_pos q3]
      have h1 : rightB (rd [y, m, d, y', m', d'] 0) (rd [y, m, d, y', m', d'] 1) (rd [y, m, d, y', m', d'] 2) 0 0 0 = true := vx
      have h2 : rightB (rd [y', m', d'] 0) (rd [y', m', d'] 1) (rd [y', m', d'] 2) 0 0 0 = true := vy
      rw [h1, bm_t, h2, bm_t, if_pos q3, if_pos q3, if_pos (hi.2 ((days_iff va vb).1 hle))]
    by_cases c : daysOf y m d > daysOf y' m' d'
    · refine ⟨⟨10, [y', m', d', y, m, d]⟩, ?_, span _ _ _ _ _ _ vy vx vb va (by omega), by simp, by simp⟩
      unfold law8_Value.F law8_Value.t
      rw [hx, hy, hk, Option.bind_some, Option.bind_some, Option.bind_some, w10, if_neg (by decide), if_neg (by decide), if_neg (by decide), if_neg (by decide), if_neg (by decide), if_neg (by decide), if_pos rfl, r1, Option.bind_some, r2, Option.bind_some, if_pos c]
    · refine ⟨⟨10, [y, m, d, y', m', d']⟩, ?_, span _ _ _ _ _ _ vx vy va vb (by omega), by simp, by simp⟩
      unfold law8_Value.F law8_Value.t
      rw [hx, hy, hk, Option.bind_some, Option.bind_some, Option.bind_some, w10, if_neg (by decide), if_neg (by decide), if_neg (by decide), if_neg (by decide), if_neg (by decide), if_neg (by decide), if_pos rfl, r1, Option.bind_some, r2, Option.bind_some, if_neg c]
/-! ### The law -/
theorem tail (X R : S27) : ((act_Right.F X).bind fun t18 => bm t18 ((ref8_Right.F X).bind fun t20 => bm t20 ((act_Right.F R).bind fun t22 => bm t22 ((ref8_Right.F R).bind fun t24 => bm t24 (some true) (some false)) ((ref8_Right.F R).bind fun t24 => bm t24 (some false) (some true))) (some false)) ((ref8_Right.F X).bind fun t20 => bm t20 (some false) ((act_Right.F R).bind fun t22 => bm t22 ((ref8_Right.F R).bind fun t24 => bm t24 (some true) (some false)) ((ref8_Right.F R).bind fun t24 => bm t24 (some false) (some true))))) = some true := by
  obtain ⟨b, h1, h2⟩ := same X
  obtain ⟨c, g1, g2⟩ := same R
  rw [h1, h2, g1, g2]
  cases b <;> cases c <;> rfl
theorem ActRight_true (v0 : S27) (n1 n2 n3 n4 n5 n6 : Int) : ActRight.F (v0, n1, n2, n3, n4, n5, n6) = some true := by
  obtain ⟨v, hv, hr, l1, l2⟩ := value_ok n1 n2 n3
  obtain ⟨p, hp, p0, p1⟩ := within_is n4 (v.f1.length : Int) (by omega) (by omega)
  obtain ⟨q, hq, q0, q1⟩ := within_is n5 4 (by omega) (by omega)
  unfold ActRight.F ActRight.t
  rw [show law8_known.F () = some true from rfl, Option.bind_some, bm_t]
  by_cases c : (v0.f1.length : Int) > 20
  · exact if_pos c
  refine (if_neg c).trans ?_
  rw [hv, Option.bind_some, show act_Right.F { f0 := v.f0, f1 := v.f1 } = some true from hr, Option.bind_some, bm_t, if_pos (by omega), List.nil_append, hp, Option.bind_some, hq, Option.bind_some]
  rcases (show q = 0 ∨ q = 1 ∨ q = 2 ∨ q = 3 by omega) with rfl | rfl | rfl | rfl
  · obtain ⟨r, hr, r0, r1⟩ := within_is n6 22 (by omega) (by omega)
    rw [if_pos rfl, hr, Option.bind_some, if_pos r0, if_pos r1, if_pos p0, if_pos p1, if_pos p1]
    exact tail _ _
  · obtain ⟨r, hr, r0, r1⟩ := within_is n6 11 (by omega) (by omega)
    rw [if_neg (by decide), if_pos rfl, hr, Option.bind_some, if_pos r0, if_pos r1]
    exact tail _ _
  · rw [if_neg (by decide), if_neg (by decide), if_pos rfl, if_pos (by omega)]
    exact tail _ _
  · rw [if_neg (by decide), if_neg (by decide), if_neg (by decide), if_pos rfl, if_pos (by omega)]
    exact tail _ _
/-- The law's call. -/
theorem ActRight_walk (k : Int) (v : Value) (l : List Int) (n1 n2 n3 n4 n5 n6 : Int) (W : World) (h : SlI ⟨fun _ => False, fun _ => undef⟩ W v l) :
    Calls Try.prog 5 #[.agg #[.int .i64 k, v], .int .i64 n1, .int .i64 n2, .int .i64 n3, .int .i64 n4, .int .i64 n5, .int .i64 n6] W fun e W' => e = .returned (.bool true) ∧ Below W.heap.size W W' := by
  obtain ⟨out, ho, _, hc⟩ := ActRight.good.calls [.agg [.int .i64 k, .ints false l], .ce (.int .i64 n1), .ce (.int .i64 n2), .ce (.int .i64 n3), .ce (.int .i64 n4), .ce (.int .i64 n5), .ce (.int .i64 n6)] some (.ret (.one (.ce (.bool true)))) (by
    unfold sp
    rw [show (oc s1 (oc sI (oc sI (oc sI (oc sI (oc sI (o1 sI))))))).dec [.agg [.int .i64 k, .ints false l], .ce (.int .i64 n1), .ce (.int .i64 n2), .ce (.int .i64 n3), .ce (.int .i64 n4), .ce (.int .i64 n5), .ce (.int .i64 n6)] = some (⟨k, l⟩, n1, n2, n3, n4, n5, n6) from rfl]
    simp only [ActRight_true]
    rfl)
  obtain rfl := Option.some.inj ho
  refine (hc ⟨fun _ => False, fun _ => undef⟩ W #[.agg #[.int .i64 k, v], .int .i64 n1, .int .i64 n2, .int .i64 n3, .int .i64 n4, .int .i64 n5, .int .i64 n6] (fun _ h => h.elim) ⟨⟨#[.int .i64 k, v], rfl, rfl, ⟨h, nofalse⟩, trivial⟩, rfl, rfl, rfl, rfl, rfl, rfl, trivial⟩).mono ?_
  rintro e W' ⟨⟨v, rfl, hv⟩, hb⟩
  exact ⟨by rw [show v = .bool true from hv], hb⟩
end Ev
end Go.Proofs.Ytldfljlklfhjkaa.PE
