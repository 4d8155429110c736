/- Twelve at night is 0, twelve at noon 12, other hours beside: the plain statement behind the row. Conditions: none. -/
import Derived.Test.YtldfljlklfhjkaaPHfx8
namespace Go.Proofs.Ytldfljlklfhjkaa.Pure
open Go.RowKit Go.Proofs.Ytldfljlklfhjkaa.PHf Go.Proofs.YtldfljlklfhjkaaW.PrintWords Go.Proofs.YtldfljlklfhjkaaW.PrintLast

theorem within_is (a n : Int) (h : 0 < n) (h2 : n ≤ 9007199254740992) : ∃ x, interlocutorlaw8_within.f a n = some x ∧ 0 ≤ x ∧ x < n := by
  unfold interlocutorlaw8_within.f
  rw [if_neg (by omega)]
  have h0 : Int.tmod a n < n := Int.tmod_lt_of_pos a h
  have h1 : -n < Int.tmod a n := by have := Int.lt_tmod_of_pos a h; omega
  by_cases c : Int.tmod a n < 0
  · rw [if_pos c]; exact ⟨_, rfl, by unfold wrap64; omega, by unfold wrap64; omega⟩
  · rw [if_neg c]; exact ⟨_, rfl, by omega, h0⟩
theorem within1_is (a n : Int) (h : 0 < n) (h2 : n ≤ 9007199254740992) : ∃ x, interlocutorlaw1_within.f a n = some x ∧ 0 ≤ x ∧ x < n := within_is a n h h2
theorem length_is (y m : Int) : ∃ n, interlocutorref1_Length.f y m = some n ∧ 28 ≤ n ∧ n ≤ 31 := by
  have hl : ∃ b, interlocutorref1_Leap.f y = some b := by
    unfold interlocutorref1_Leap.f
    repeat' split
    all_goals exact ⟨_, rfl⟩
  obtain ⟨b, hb⟩ := hl
  unfold interlocutorref1_Length.f
  rw [hb]
  simp only [Option.bind_some]
  repeat' split
  all_goals exact ⟨_, rfl, by omega, by omega⟩
theorem ref_is (a : Int) : ∃ t, interlocutorlaw8_Ref.f a = some t := by
  unfold interlocutorlaw8_Ref.f interlocutorlaw1_Day.f
  obtain ⟨x, hx, x0, x1⟩ := within1_is (wrap64 (Int.tdiv a 400)) 9999 (by omega) (by omega)
  obtain ⟨y, hy, y0, y1⟩ := within1_is a 12 (by omega) (by omega)
  obtain ⟨n, hn, n0, n1⟩ := length_is (wrap64 (1 + x)) (wrap64 (1 + y))
  obtain ⟨z, hz, _, _⟩ := within1_is (wrap64 (Int.tdiv a 12)) n (by omega) (by omega)
  obtain ⟨p, hp, _, _⟩ := within_is (wrap64 (Int.tdiv a 7)) 24 (by omega) (by omega)
  obtain ⟨q, hq, _, _⟩ := within_is (wrap64 (Int.tdiv a 11)) 60 (by omega) (by omega)
  obtain ⟨r, hr, _, _⟩ := within_is (wrap64 (Int.tdiv a 13)) 60 (by omega) (by omega)
  simp [hx, hy, hn, hz, hp, hq, hr]
theorem right_time (k : Nat) (h m : Int) (h0 : 0 ≤ h) (h1 : h ≤ 23) (m0 : 0 ≤ m) : act_Right.f k 5 [h, m, 0] = some (decide (m ≤ 59)) := by
  have hf : act_fields.f 5 = some 3 := by kernel_rfl
  have hr : rightB 1 1 1 h m 0 = decide (m ≤ 59) := by
    unfold rightB
    have e : (1 : Int) ≤ lenOf 1 1 := by decide
    simp [h0, h1, m0, e]
  have hd : act_time.f [h, m, 0] = some (rightB 1 1 1 h m 0) := by
    unfold act_time.f civil_Right.f
    rfl
  unfold act_Right.f
  rw [hf]
  simp only [Option.bind_some]
  rw [if_pos (show ((([h, m, 0] : List Int).length : Nat) : Int) = 3 from rfl), if_neg (by decide), if_pos trivial, hd, hr]
  rfl
theorem g_three (k : Nat) (a n z y m d H I S : Int) : act_Do.g k 4 [0, 1, 2] [⟨1, [a, 2]⟩, ⟨1, [n, 2]⟩, ⟨2, [z]⟩] y m d H I S = act_maker_half.g a n z := by
  unfold act_Do.g
  rw [if_neg (by decide), if_pos rfl]
  rfl
theorem g_two (k : Nat) (a n z y m d H I S : Int) : act_Do.g k 4 [0, 2] [⟨1, [a, 2]⟩, ⟨1, [n, 2]⟩, ⟨2, [z]⟩] y m d H I S = act_maker_half.g a 0 z := by
  unfold act_Do.g
  rw [if_neg (by decide), if_pos rfl]
  rfl
theorem do_half (k : Nat) (P : List Int) (L : List S27) (a n z y m d H I S : Int) (hP : P.length ≤ 1000000 ∧ (∀ p ∈ P, 0 ≤ p ∧ p < (L.length : Int)) ∧ (4 : Int) ≠ 0) (hg : act_Do.g k 4 P L y m d H I S = act_maker_half.g a n z) (hz : z = 0 ∨ z = 1) (n0 : 0 ≤ n) :
    act_Do.f k 4 P L y m d H I S = if 1 ≤ a ∧ a ≤ 12 ∧ n ≤ 59 then some (5, [Int.tmod a 12 + 12 * z, n, 0], true) else some (0, [], false) := by
  unfold act_Do.f
  rw [if_pos hP, hg]
  unfold act_maker_half.g
  by_cases c : 1 ≤ a ∧ a ≤ 12
  · rw [if_pos ⟨c.1, c.2, hz⟩]
    have h1 := Int.tmod_lt_of_pos a (b := 12) (by omega)
    have h2 : 0 ≤ Int.tmod a 12 := Int.tmod_nonneg 12 (by omega)
    simp only [Option.bind_some, Option.isSome_some, dif_pos, Option.get_some, right_time k (Int.tmod a 12 + 12 * z) n (by omega) (by omega) n0]
    by_cases e : n ≤ 59
    · rw [if_pos (show 1 ≤ a ∧ a ≤ 12 ∧ n ≤ 59 by omega)]; simp [e]
    · rw [if_neg (show ¬(1 ≤ a ∧ a ≤ 12 ∧ n ≤ 59) by omega)]; simp [e]
  · rw [if_neg (by omega), if_pos (by omega), if_neg (by omega)]
    rfl
theorem order_same (a : Int) : interlocutorref10_order.f a a = some 0 := by
  unfold interlocutorref10_order.f
  rw [if_neg (by omega), if_neg (by omega)]
theorem cmp_three (k a b c : Int) : interlocutorref10_Cmp.f 6 k [a, b, c] k [a, b, c] = some 0 := by
  simp [interlocutorref10_Cmp.f, interlocutorref10_Cmp.l0, order_same, wrap64, rd]
theorem j1_is (a0 x n z : Int) (P : List Int) (L : List S27) (hz : z = 0 ∨ z = 1) (n0 : 0 ≤ n) (hx : -1 ≤ x ∧ x ≤ 13)
    (hd : ∀ y m d H I S, act_Do.f 6 4 P L y m d H I S = if 1 ≤ mx x 0 ∧ mx x 0 ≤ 12 ∧ n ≤ 59 then some (5, [Int.tmod (mx x 0) 12 + 12 * z, n, 0], true) else some (0, [], false)) :
    interlocutorlaw8_ActHalves.j1 7 a0 x n z L 4 P = some true := by
  obtain ⟨t, ht⟩ := ref_is a0
  show interlocutorlaw8_ActHalves.j1 (6 + 1) a0 x n z L 4 P = some true
  simp only [interlocutorlaw8_ActHalves.j1, ht, Option.bind_some, hd]
  have hm : mx x 0 = if x < 0 then 0 else x := by unfold mx; split <;> rfl
  by_cases c1 : x < 1
  · rw [if_neg (by rw [hm]; split <;> omega)]
    simp [c1]
  · by_cases c2 : x > 12
    · rw [if_neg (by rw [hm]; split <;> omega)]
      simp [c1, c2]
    · have hx' : mx x 0 = x := by rw [hm, if_neg (by omega)]
      by_cases c3 : n > 59
      · rw [if_neg (by omega)]
        simp [c1, c2, c3]
      · rw [if_pos (by omega)]
        have h1 := Int.tmod_lt_of_pos x (b := 12) (by omega)
        have h2 : 0 ≤ Int.tmod x 12 := Int.tmod_nonneg 12 (by omega)
        have e : wrap64 (Int.tmod x 12 + wrap64 (12 * z)) = Int.tmod x 12 + 12 * z := by unfold wrap64; omega
        simp only [Option.bind_some, if_neg c1, if_neg c2, if_neg c3, if_true, hx', e, cmp_three]
        rfl
theorem ActHalves : interlocutorlaw8_ActHalves.Pure := by
  intro a0 a1 a2 a3 _ _
  refine ⟨8, ?_⟩
  obtain ⟨x, hx, x0, x1⟩ := within_is a0 15 (by omega) (by omega)
  obtain ⟨n, hn, n0, n1⟩ := within_is a1 70 (by omega) (by omega)
  have e : wrap64 (x - 1) = x - 1 := by unfold wrap64; omega
  have key : ∀ z : Int, z = 0 ∨ z = 1 → interlocutorlaw8_ActHalves.j0 8 a0 a3 (x - 1) n z = some true := by
    intro z hz
    show interlocutorlaw8_ActHalves.j0 (7 + 1) a0 a3 (x - 1) n z = some true
    simp only [interlocutorlaw8_ActHalves.j0, Option.bind_some]
    cases a3
    · rw [if_neg (by decide)]
      exact j1_is a0 (x - 1) 0 z _ _ hz (by omega) (by omega) (fun y m d H I S => do_half 6 _ _ _ 0 z y m d H I S (by simp) (g_two 6 _ n z y m d H I S) hz (by omega))
    · rw [if_pos rfl]
      exact j1_is a0 (x - 1) n z _ _ hz (by omega) (by omega) (fun y m d H I S => do_half 6 _ _ _ n z y m d H I S (by simp) (g_three 6 _ n z y m d H I S) hz (by omega))
  unfold interlocutorlaw8_ActHalves.f
  simp only [interlocutorlaw8_known.f, hx, hn, Option.bind_some, if_true, e]
  cases a2
  · rw [if_neg (by decide)]
    exact key 0 (.inl rfl)
  · rw [if_pos rfl]
    exact key 1 (.inr rfl)

end Go.Proofs.Ytldfljlklfhjkaa.Pure
