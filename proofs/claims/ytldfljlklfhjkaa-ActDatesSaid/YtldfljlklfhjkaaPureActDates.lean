/- A day by year, month, day is one just if the calendar has it; by month and day alone it is of the reference's year: the plain statement behind the row. Conditions: none. -/
import Derived.Test.YtldfljlklfhjkaaPDtx12
namespace Go.Proofs.Ytldfljlklfhjkaa.Pure
open Go.RowKit Go.Proofs.Ytldfljlklfhjkaa.PDt Go.Proofs.YtldfljlklfhjkaaW.PrintWords Go.Proofs.YtldfljlklfhjkaaW.PrintLast

theorem within_is (a n : Int) (h : 0 < n) (h2 : n ≤ 9007199254740992) : ∃ x, interlocutorlaw8_within.f a n = some x ∧ 0 ≤ x ∧ x < n := by
  unfold interlocutorlaw8_within.f
  rw [if_neg (by omega)]
  have h0 : Int.tmod a n < n := Int.tmod_lt_of_pos a h
  have h1 : -n < Int.tmod a n := by have := Int.lt_tmod_of_pos a h; omega
  by_cases c : Int.tmod a n < 0
  · rw [if_pos c]; exact ⟨_, rfl, by unfold wrap64; omega, by unfold wrap64; omega⟩
  · rw [if_neg c]; exact ⟨_, rfl, by omega, h0⟩
theorem within1_is (a n : Int) (h : 0 < n) (h2 : n ≤ 9007199254740992) : ∃ x, interlocutorlaw1_within.f a n = some x ∧ 0 ≤ x ∧ x < n := within_is a n h h2
theorem length_is (y m : Int) : ∃ n, interlocutorref1_Length.f y m = some n ∧ 28 ≤ n ∧ n ≤ 31 := by
  have hl : ∃ b, interlocutorref1_Leap.f y = some b := by
    unfold interlocutorref1_Leap.f
    repeat' split
    all_goals exact ⟨_, rfl⟩
  obtain ⟨b, hb⟩ := hl
  unfold interlocutorref1_Length.f
  rw [hb]
  simp only [Option.bind_some]
  repeat' split
  all_goals exact ⟨_, rfl, by omega, by omega⟩
theorem ref_is (a : Int) : ∃ t, interlocutorlaw8_Ref.f a = some t := by
  unfold interlocutorlaw8_Ref.f interlocutorlaw1_Day.f
  obtain ⟨x, hx, x0, x1⟩ := within1_is (wrap64 (Int.tdiv a 400)) 9999 (by omega) (by omega)
  obtain ⟨y, hy, y0, y1⟩ := within1_is a 12 (by omega) (by omega)
  obtain ⟨n, hn, n0, n1⟩ := length_is (wrap64 (1 + x)) (wrap64 (1 + y))
  obtain ⟨z, hz, _, _⟩ := within1_is (wrap64 (Int.tdiv a 12)) n (by omega) (by omega)
  obtain ⟨p, hp, _, _⟩ := within_is (wrap64 (Int.tdiv a 7)) 24 (by omega) (by omega)
  obtain ⟨q, hq, _, _⟩ := within_is (wrap64 (Int.tdiv a 11)) 60 (by omega) (by omega)
  obtain ⟨r, hr, _, _⟩ := within_is (wrap64 (Int.tdiv a 13)) 60 (by omega) (by omega)
  simp [hx, hy, hn, hz, hp, hq, hr]
theorem rleap_of (y : Int) : interlocutorref1_Leap.f y = some (leapB y) := by
  unfold interlocutorref1_Leap.f leapB
  simp only [tmod_zero]
  have e : ∀ b : Int, ((Int.tmod y b) == 0) = (y % b == 0) := fun b => by rw [Bool.eq_iff_iff, beq_iff_eq, beq_iff_eq, tmod_zero]
  simp only [e]
  by_cases h4 : y % 4 = 0
  · by_cases h1 : y % 100 = 0
    · simp [h4, h1]
    · simp [h4, h1]
  · have h6 : (y % 4 == 0) = false := beq_eq_false_iff_ne.mpr h4
    rw [if_neg h4, h6]; rfl
theorem rlength_of (y m : Int) : interlocutorref1_Length.f y m = some (lenOf y m) := by
  rw [← length_of]
  unfold interlocutorref1_Length.f civil_Length.f
  rw [leap_of, rleap_of]
theorem order_same (a : Int) : interlocutorref10_order.f a a = some 0 := by
  unfold interlocutorref10_order.f
  rw [if_neg (by omega), if_neg (by omega)]
theorem cmp_three (k a b c : Int) : interlocutorref10_Cmp.f 6 k [a, b, c] k [a, b, c] = some 0 := by
  simp [interlocutorref10_Cmp.f, interlocutorref10_Cmp.l0, order_same, wrap64, rd]
theorem right_three (k : Nat) (y m d : Int) : act_Right.f k 4 [y, m, d] = some (rightB y m d 0 0 0) := by
  have hf : act_fields.f 4 = some 3 := by kernel_rfl
  have hd : act_day.f [y, m, d] = some (rightB y m d 0 0 0) := by
    unfold act_day.f civil_Right.f
    rfl
  unfold act_Right.f
  rw [hf]
  simp only [Option.bind_some]
  rw [if_pos (show ((([y, m, d] : List Int).length : Nat) : Int) = 3 from rfl), if_pos trivial, hd]
  rfl
theorem rday_is (y m d : Int) : interlocutorref1_Day.f y m d = some (rightB y m d 0 0 0) := by
  unfold interlocutorref1_Day.f rightB
  rw [rlength_of]
  simp only [Option.bind_some]
  by_cases h1 : y ≥ 1
  · by_cases h2 : y ≤ 9999
    · by_cases h3 : m ≥ 1
      · by_cases h4 : m ≤ 12
        · by_cases h5 : d ≥ 1
          · simp [h1, h2, h3, h4, h5]
          · simp [h1, h2, h3, h4, h5]
        · simp [h1, h2, h3, h4]
      · simp [h1, h2, h3]
    · simp [h1, h2]
  · simp [h1]
/-- What Do tells of a day that may be none. -/
def told (b : Bool) (l : List Int) : Int × List Int × Bool := if b = true then (4, l, true) else (0, [], false)
theorem year_is (k : Nat) (a y m d H I S : Int) : act_Year.f (k + 1) 1 [a, 4] y m d H I S = if a < 1 then some (0, false) else if a > 9999 then some (0, false) else some (a, true) := by
  unfold act_Year.f
  rw [if_pos rfl]
  show act_Year.j0 (k + 1) false 1 [a, 4] y m d H I S = _
  simp only [act_Year.j0]
  rw [if_neg (by decide)]
  have e : act_year.f 1 [a, 4] y m d H I S = some a := rfl
  rw [e]
  rfl
theorem do_date (k : Nat) (a b c y m d H I S : Int) (mv : S27) (hmv : mv = ⟨2, [b]⟩ ∨ mv = ⟨1, [b, 2]⟩) :
    act_Do.f (k + 1) 1 [0, 1, 2] [⟨1, [a, 4]⟩, mv, ⟨1, [c, 2]⟩] y m d H I S = some (told (rightB a b c 0 0 0) [a, b, c]) := by
  have hL : [0, 1, 2].map (rd_T27 [⟨1, [a, 4]⟩, mv, ⟨1, [c, 2]⟩]) = [⟨1, [a, 4]⟩, mv, ⟨1, [c, 2]⟩] := rfl
  have h0 : act_maker_number.f 1 [⟨1, [a, 4]⟩, mv, ⟨1, [c, 2]⟩] y m d H I S 0 = some a := rfl
  have h2 : act_maker_number.f 1 [⟨1, [a, 4]⟩, mv, ⟨1, [c, 2]⟩] y m d H I S 2 = some c := rfl
  have h1 : act_maker_count.f (k + 1) 1 [⟨1, [a, 4]⟩, mv, ⟨1, [c, 2]⟩] y m d H I S 1 = some b := by
    rcases hmv with rfl | rfl
    · rfl
    · rfl
  have hg : act_Do.g (k + 1) 1 [0, 1, 2] [⟨1, [a, 4]⟩, mv, ⟨1, [c, 2]⟩] y m d H I S = if 1 ≤ a ∧ a ≤ 9999 then some (some (4, [a, b, c])) else some none := by
    unfold act_Do.g
    rw [if_pos rfl, hL]
    unfold act_maker_dateR.f
    rw [h0]
    simp only [Option.bind_some]
    rw [show (rd_T27 [⟨1, [a, 4]⟩, mv, ⟨1, [c, 2]⟩] 0).f0 = 1 from rfl, show (rd_T27 [⟨1, [a, 4]⟩, mv, ⟨1, [c, 2]⟩] 0).f1 = [a, 4] from rfl, year_is]
    have hlen : 0 < ([(⟨1, [a, 4]⟩ : S27), mv, ⟨1, [c, 2]⟩] : List S27).length := by simp
    by_cases c1 : a < 1
    · rw [if_pos c1, if_neg (show ¬(1 ≤ a ∧ a ≤ 9999) by omega)]
      simp only [Option.bind_some, Bool.false_eq_true, if_false]
      rw [if_pos hlen]
    · by_cases c2 : a > 9999
      · rw [if_neg c1, if_pos c2, if_neg (show ¬(1 ≤ a ∧ a ≤ 9999) by omega)]
        simp only [Option.bind_some, Bool.false_eq_true, if_false]
        rw [if_pos hlen]
      · have hd : act_maker_date.f (k + 1) 1 [⟨1, [a, 4]⟩, mv, ⟨1, [c, 2]⟩] y m d H I S = some (4, [a, b, c]) := by
          unfold act_maker_date.f
          rw [h0]
          simp only [Option.bind_some]
          rw [if_pos (show (0 : Int) < ((([⟨1, [a, 4]⟩, mv, ⟨1, [c, 2]⟩] : List S27).length : Nat) : Int) by simp), show (rd_T27 [⟨1, [a, 4]⟩, mv, ⟨1, [c, 2]⟩] 0).f0 = 1 from rfl, show (rd_T27 [⟨1, [a, 4]⟩, mv, ⟨1, [c, 2]⟩] 0).f1 = [a, 4] from rfl, year_is, if_neg c1, if_neg c2, h1, h2]
          rfl
        rw [if_neg c1, if_neg c2, if_pos (show 1 ≤ a ∧ a ≤ 9999 by omega)]
        simp only [Option.bind_some, if_true, hd]
        rfl
  unfold act_Do.f told
  rw [if_pos (by simp), hg]
  by_cases c1 : 1 ≤ a ∧ a ≤ 9999
  · rw [if_pos c1]
    simp only [Option.bind_some, Option.isSome_some, dif_pos, Option.get_some, right_three]
    cases rightB a b c 0 0 0 <;> rfl
  · rw [if_neg c1]
    have e : rightB a b c 0 0 0 = false := by
      unfold rightB
      exact decide_eq_false (fun h => c1 ⟨h.1, h.2.1⟩)
    rw [e]
    rfl
theorem do_this (k : Nat) (a b c y m d H I S : Int) (mv : S27) (hmv : mv = ⟨2, [b]⟩ ∨ mv = ⟨1, [b, 2]⟩) :
    act_Do.f (k + 1) 2 [1, 2] [⟨1, [a, 4]⟩, mv, ⟨1, [c, 2]⟩] y m d H I S = some (told (rightB y b c 0 0 0) [y, b, c]) := by
  have hL : [1, 2].map (rd_T27 [⟨1, [a, 4]⟩, mv, ⟨1, [c, 2]⟩]) = [mv, ⟨1, [c, 2]⟩] := rfl
  have h2 : act_maker_number.f 2 [mv, ⟨1, [c, 2]⟩] y m d H I S 1 = some c := rfl
  have h1 : act_maker_count.f (k + 1) 2 [mv, ⟨1, [c, 2]⟩] y m d H I S 0 = some b := by
    rcases hmv with rfl | rfl
    · rfl
    · rfl
  have hg : act_Do.g (k + 1) 2 [1, 2] [⟨1, [a, 4]⟩, mv, ⟨1, [c, 2]⟩] y m d H I S = some (some (4, [y, b, c])) := by
    unfold act_Do.g
    rw [if_neg (by decide), if_pos rfl, hL]
    unfold act_maker_this.f
    rw [h1, h2]
    rfl
  unfold act_Do.f told
  rw [if_pos (by simp), hg]
  simp only [Option.bind_some, Option.isSome_some, dif_pos, Option.get_some, right_three]
  cases rightB y b c 0 0 0 <;> rfl
theorem j0_is (a b c y m d H I S : Int) (k0 : Int) (l0 : List Int) (hmv : (⟨k0, l0⟩ : S27) = ⟨2, [b]⟩ ∨ (⟨k0, l0⟩ : S27) = ⟨1, [b, 2]⟩) : interlocutorlaw8_ActDates.j0 7 a b c y m d H I S k0 l0 = some true := by
  show interlocutorlaw8_ActDates.j0 (6 + 1) a b c y m d H I S k0 l0 = some true
  simp only [interlocutorlaw8_ActDates.j0, Option.bind_some]
  rw [do_date 5 a b c y m d H I S ⟨k0, l0⟩ hmv]
  simp only [Option.bind_some]
  rw [do_this 5 a b c y m d H I S ⟨k0, l0⟩ hmv]
  simp only [Option.bind_some, rday_is]
  unfold told
  cases rightB a b c 0 0 0 <;> cases rightB y b c 0 0 0 <;> simp [cmp_three]
theorem ActDates : interlocutorlaw8_ActDates.Pure := by
  intro a0 a1 a2 a3 a4 _ _ _ _
  refine ⟨7, ?_⟩
  obtain ⟨a, ha, _, _⟩ := within_is a0 11000 (by omega) (by omega)
  obtain ⟨b, hb, _, _⟩ := within_is a1 15 (by omega) (by omega)
  obtain ⟨c, hc, _, _⟩ := within_is a2 34 (by omega) (by omega)
  obtain ⟨t, ht⟩ := ref_is a3
  unfold interlocutorlaw8_ActDates.f
  simp only [interlocutorlaw8_known.f, ha, hb, hc, ht, Option.bind_some, if_true]
  cases a4
  · rw [if_neg (by decide)]
    exact j0_is a b c _ _ _ _ _ _ 1 [b, 2] (.inr rfl)
  · rw [if_pos rfl]
    exact j0_is a b c _ _ _ _ _ _ 2 [b] (.inl rfl)

end Go.Proofs.Ytldfljlklfhjkaa.Pure
