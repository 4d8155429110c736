/- Durations are together as long; beyond 2^53 there is none: the plain statement behind the row. Conditions: none. -/
import Derived.Test.YtldfljlklfhjkaaPSmx7
namespace Go.Proofs.Ytldfljlklfhjkaa.Pure
open Go.RowKit Go.Proofs.Ytldfljlklfhjkaa.PSm Go.Proofs.YtldfljlklfhjkaaW.PrintWords Go.Proofs.YtldfljlklfhjkaaW.PrintLast

theorem within_is (a n : Int) (h : 0 < n) (h2 : n ≤ 9007199254740992) : ∃ x, interlocutorlaw8_within.f a n = some x ∧ 0 ≤ x ∧ x < n := by
  unfold interlocutorlaw8_within.f
  rw [if_neg (by omega)]
  have h0 : Int.tmod a n < n := Int.tmod_lt_of_pos a h
  have h1 : -n < Int.tmod a n := by have := Int.lt_tmod_of_pos a h; omega
  by_cases c : Int.tmod a n < 0
  · rw [if_pos c]; exact ⟨_, rfl, by unfold wrap64; omega, by unfold wrap64; omega⟩
  · rw [if_neg c]; exact ⟨_, rfl, by omega, h0⟩
theorem within1_is (a n : Int) (h : 0 < n) (h2 : n ≤ 9007199254740992) : ∃ x, interlocutorlaw1_within.f a n = some x ∧ 0 ≤ x ∧ x < n := within_is a n h h2
theorem length_is (y m : Int) : ∃ n, interlocutorref1_Length.f y m = some n ∧ 28 ≤ n ∧ n ≤ 31 := by
  have hl : ∃ b, interlocutorref1_Leap.f y = some b := by
    unfold interlocutorref1_Leap.f
    repeat' split
    all_goals exact ⟨_, rfl⟩
  obtain ⟨b, hb⟩ := hl
  unfold interlocutorref1_Length.f
  rw [hb]
  simp only [Option.bind_some]
  repeat' split
  all_goals exact ⟨_, rfl, by omega, by omega⟩
theorem ref_is (a : Int) : ∃ t, interlocutorlaw8_Ref.f a = some t := by
  unfold interlocutorlaw8_Ref.f interlocutorlaw1_Day.f
  obtain ⟨x, hx, x0, x1⟩ := within1_is (wrap64 (Int.tdiv a 400)) 9999 (by omega) (by omega)
  obtain ⟨y, hy, y0, y1⟩ := within1_is a 12 (by omega) (by omega)
  obtain ⟨n, hn, n0, n1⟩ := length_is (wrap64 (1 + x)) (wrap64 (1 + y))
  obtain ⟨z, hz, _, _⟩ := within1_is (wrap64 (Int.tdiv a 12)) n (by omega) (by omega)
  obtain ⟨p, hp, _, _⟩ := within_is (wrap64 (Int.tdiv a 7)) 24 (by omega) (by omega)
  obtain ⟨q, hq, _, _⟩ := within_is (wrap64 (Int.tdiv a 11)) 60 (by omega) (by omega)
  obtain ⟨r, hr, _, _⟩ := within_is (wrap64 (Int.tdiv a 13)) 60 (by omega) (by omega)
  simp [hx, hy, hn, hz, hp, hq, hr]
theorem right_dur (k : Nat) (x : Int) : act_Right.f k 9 [x] = some (decide (0 ≤ x ∧ x ≤ 9007199254740991)) := by
  have hf : act_fields.f 9 = some 1 := by kernel_rfl
  unfold act_Right.f
  rw [hf]
  simp only [Option.bind_some, List.length_singleton, Int.natCast_one, if_true]
  have e : rd [x] 0 = x := rfl
  rw [e]
  by_cases c : x ≥ 0
  · simp [c]
  · simp [c]
theorem do_sum (k : Nat) (x y a b c d e f : Int) : act_Do.f k 14 [0, 1] [⟨9, [x]⟩, ⟨9, [y]⟩] a b c d e f = (if 0 ≤ wrap64 (x + y) ∧ wrap64 (x + y) ≤ 9007199254740991 then some (9, [wrap64 (x + y)], true) else some (0, [], false)) := by
  have hg : act_Do.g k 14 [0, 1] [⟨9, [x]⟩, ⟨9, [y]⟩] a b c d e f = some (9, [wrap64 (x + y)]) := by
    unfold act_Do.g
    rw [if_neg (by decide), if_pos rfl]
    rfl
  unfold act_Do.f
  rw [if_pos (by simp), hg]
  simp only [Option.bind_some, right_dur]
  by_cases h : 0 ≤ wrap64 (x + y) ∧ wrap64 (x + y) ≤ 9007199254740991
  · simp [h]
  · rw [if_neg h, if_neg (by simpa using h)]
theorem order_same (a : Int) : interlocutorref10_order.f a a = some 0 := by
  unfold interlocutorref10_order.f
  rw [if_neg (by omega), if_neg (by omega)]
theorem cmp_one (k a : Int) : interlocutorref10_Cmp.f 4 k [a] k [a] = some 0 := by
  simp [interlocutorref10_Cmp.f, interlocutorref10_Cmp.l0, order_same, wrap64, rd]
theorem j0_is (a x y : Int) (hx : 0 ≤ x ∧ x < 9007199254740992) (hy : 0 ≤ y) : interlocutorlaw8_ActSums.j0 5 a x y = some true := by
  show interlocutorlaw8_ActSums.j0 (4 + 1) a x y = some true
  simp only [interlocutorlaw8_ActSums.j0]
  by_cases c : y ≥ 9007199254740992
  · rw [if_pos c]
  · rw [if_neg c]
    obtain ⟨t, ht⟩ := ref_is a
    have hw : wrap64 (x + y) = x + y := by unfold wrap64; omega
    rw [ht]
    simp only [Option.bind_some, do_sum, hw]
    by_cases d : x + y ≥ 9007199254740992
    · rw [if_neg (by omega)]
      simp only [Option.bind_some, if_pos d]
      rfl
    · rw [if_pos (by omega)]
      simp only [Option.bind_some, if_neg d, cmp_one, if_true]
      rfl
theorem ActSums : interlocutorlaw8_ActSums.Pure := by
  intro a0 a1 a2 _ _
  refine ⟨5, ?_⟩
  obtain ⟨x, hx, x0, x1⟩ := within_is a0 9007199254740992 (by omega) (by omega)
  obtain ⟨y, hy, y0, y1⟩ := within_is a1 9007199254740992 (by omega) (by omega)
  obtain ⟨z, hz, z0, z1⟩ := within_is a1 3 (by omega) (by omega)
  unfold interlocutorlaw8_ActSums.f
  simp only [interlocutorlaw8_known.f, hx, hy, hz, Option.bind_some, if_true]
  cases a2
  · rw [if_neg (by decide)]
    exact j0_is a0 x y ⟨x0, x1⟩ y0
  · rw [if_pos rfl]
    exact j0_is a0 x _ ⟨x0, x1⟩ (by unfold wrap64; omega)

end Go.Proofs.Ytldfljlklfhjkaa.Pure
