/- A number and one behind the point are the decimal that they are typed as: the plain statement behind the row. Conditions: none. -/
import Derived.Test.YtldfljlklfhjkaaPPtx13
namespace Go.Proofs.Ytldfljlklfhjkaa.Pure
open Go.RowKit Go.Proofs.Ytldfljlklfhjkaa.PPt Go.Proofs.YtldfljlklfhjkaaW.PrintWords Go.Proofs.YtldfljlklfhjkaaW.PrintLast

theorem within_is (a n : Int) (h : 0 < n) (h2 : n ≤ 9007199254740992) : ∃ x, interlocutorlaw8_within.f a n = some x ∧ 0 ≤ x ∧ x < n := by
  unfold interlocutorlaw8_within.f
  rw [if_neg (by omega)]
  have h0 : Int.tmod a n < n := Int.tmod_lt_of_pos a h
  have h1 : -n < Int.tmod a n := by have := Int.lt_tmod_of_pos a h; omega
  by_cases c : Int.tmod a n < 0
  · rw [if_pos c]; exact ⟨_, rfl, by unfold wrap64; omega, by unfold wrap64; omega⟩
  · rw [if_neg c]; exact ⟨_, rfl, by omega, h0⟩
theorem within1_is (a n : Int) (h : 0 < n) (h2 : n ≤ 9007199254740992) : ∃ x, interlocutorlaw1_within.f a n = some x ∧ 0 ≤ x ∧ x < n := within_is a n h h2
theorem length_is (y m : Int) : ∃ n, interlocutorref1_Length.f y m = some n ∧ 28 ≤ n ∧ n ≤ 31 := by
  have hl : ∃ b, interlocutorref1_Leap.f y = some b := by
    unfold interlocutorref1_Leap.f
    repeat' split
    all_goals exact ⟨_, rfl⟩
  obtain ⟨b, hb⟩ := hl
  unfold interlocutorref1_Length.f
  rw [hb]
  simp only [Option.bind_some]
  repeat' split
  all_goals exact ⟨_, rfl, by omega, by omega⟩
theorem ref_is (a : Int) : ∃ t, interlocutorlaw8_Ref.f a = some t := by
  unfold interlocutorlaw8_Ref.f interlocutorlaw1_Day.f
  obtain ⟨x, hx, x0, x1⟩ := within1_is (wrap64 (Int.tdiv a 400)) 9999 (by omega) (by omega)
  obtain ⟨y, hy, y0, y1⟩ := within1_is a 12 (by omega) (by omega)
  obtain ⟨n, hn, n0, n1⟩ := length_is (wrap64 (1 + x)) (wrap64 (1 + y))
  obtain ⟨z, hz, _, _⟩ := within1_is (wrap64 (Int.tdiv a 12)) n (by omega) (by omega)
  obtain ⟨p, hp, _, _⟩ := within_is (wrap64 (Int.tdiv a 7)) 24 (by omega) (by omega)
  obtain ⟨q, hq, _, _⟩ := within_is (wrap64 (Int.tdiv a 11)) 60 (by omega) (by omega)
  obtain ⟨r, hr, _, _⟩ := within_is (wrap64 (Int.tdiv a 13)) 60 (by omega) (by omega)
  simp [hx, hy, hn, hz, hp, hq, hr]
theorem order_same (a : Int) : interlocutorref10_order.f a a = some 0 := by
  unfold interlocutorref10_order.f
  rw [if_neg (by omega), if_neg (by omega)]
theorem cmp_two (K : Nat) (k a b : Int) : interlocutorref10_Cmp.f (K + 4) k [a, b] k [a, b] = some 0 := by
  simp [interlocutorref10_Cmp.f, interlocutorref10_Cmp.l0, order_same, wrap64, rd]
/-- A decimal without noughts at its end. -/
theorem normN_is : ∀ (s : Nat) (m : Int), 0 ≤ m → ∃ (m' : Int) (s' : Nat), normN s m = (m', (s' : Int)) ∧ s' ≤ s ∧ (s' = 0 ∨ m' % 10 ≠ 0) ∧ 0 ≤ m' ∧ m' ≤ m
  | 0, m, h => ⟨m, 0, rfl, Nat.le_refl _, .inl rfl, h, Int.le_refl _⟩
  | s + 1, m, h => by
    unfold normN
    by_cases c : m % 10 = 0
    · rw [if_pos c]
      obtain ⟨m', s', e, h1, h2, h3, h4⟩ := normN_is s (m / 10) (by omega)
      exact ⟨m', s', e, by omega, h2, h3, by omega⟩
    · rw [if_neg c]
      exact ⟨m, s + 1, rfl, Nat.le_refl _, .inr c, h, Int.le_refl _⟩
theorem normN_id (s : Nat) (m : Int) (h : s = 0 ∨ m % 10 ≠ 0) : normN s m = (m, (s : Int)) := by
  cases s with
  | zero => rfl
  | succ s =>
    unfold normN
    rw [if_neg (by rcases h with h | h; (exact absurd h (by omega)); exact h)]
theorem right_dec (k : Nat) (v : Int) (s : Nat) (h0 : -1000000000000000000 < v) (h1 : v < 1000000000000000000) (hs : s ≤ 18) (hn : s = 0 ∨ v % 10 ≠ 0) : act_Right.f k 7 [v, (s : Int)] = some true := by
  have hf : act_fields.f 7 = some 2 := by kernel_rfl
  have hn : dec_Norm.f v (s : Int) = some (v, (s : Int)) := by
    unfold dec_Norm.f
    rw [if_pos (by omega), Int.toNat_natCast, normN_id s v hn]
  have hd : act_decimal.f [v, (s : Int)] = some true := by
    have e0 : rd [v, (s : Int)] 0 = v := rfl
    have e1 : rd [v, (s : Int)] 1 = (s : Int) := rfl
    unfold act_decimal.f
    rw [if_pos (show (0 : Int) < ((([v, (s : Int)] : List Int).length : Nat) : Int) by simp), e0, e1, if_neg (show ¬(v ≤ -1000000000000000000) by omega), if_neg (show ¬(v ≥ 1000000000000000000) by omega), if_pos (show (1 : Int) < ((([v, (s : Int)] : List Int).length : Nat) : Int) by simp), if_neg (show ¬((s : Int) < 0) by omega), if_neg (show ¬((s : Int) > 18) by omega), hn]
    simp
  unfold act_Right.f
  rw [hf]
  simp only [Option.bind_some]
  rw [if_pos (show ((([v, (s : Int)] : List Int).length : Nat) : Int) = 2 from rfl), if_neg (by decide), if_neg (by decide), if_neg (by decide), if_pos trivial, hd]
  rfl
/-- The places and the power of ten that goes with them. -/
def Pow (d : Nat) (p : Int) : Prop := (d = 1 ∧ p = 10) ∨ (d = 2 ∧ p = 100) ∨ (d = 3 ∧ p = 1000) ∨ (d = 4 ∧ p = 10000) ∨ (d = 5 ∧ p = 100000) ∨ (d = 6 ∧ p = 1000000)
theorem ten40 (d : Nat) (p : Int) (h : Pow d p) : dec_ten.f 40 (d : Int) = some p ∧ dec_ten.f 39 (d : Int) = some p := by
  rcases h with ⟨rfl, rfl⟩ | ⟨rfl, rfl⟩ | ⟨rfl, rfl⟩ | ⟨rfl, rfl⟩ | ⟨rfl, rfl⟩ | ⟨rfl, rfl⟩
  all_goals exact ⟨by kernel_rfl, by kernel_rfl⟩
theorem bound39 : dec_bound.f 39 = some 1000000000000000000 := by kernel_rfl
theorem join_num (d : Nat) (p x y : Int) (h : Pow d p) (x0 : 0 ≤ x) (x1 : x < 1073741824) (y0 : 0 ≤ y) (y1 : y < p) : ¬ x > wrap64 (Int.tdiv (wrap64 (wrap64 (1000000000000000000 - 1) - y)) p) ∧ wrap64 (wrap64 (x * p) + y) = x * p + y ∧ 0 ≤ x * p + y ∧ x * p + y < 1000000000000000000 ∧ ¬ p = 0 ∧ d ≤ 6 := by
  have e1 : wrap64 (1000000000000000000 - 1) = 999999999999999999 := by unfold wrap64; omega
  rw [e1]
  rcases h with ⟨rfl, rfl⟩ | ⟨rfl, rfl⟩ | ⟨rfl, rfl⟩ | ⟨rfl, rfl⟩ | ⟨rfl, rfl⟩ | ⟨rfl, rfl⟩
  all_goals
    have e2 : wrap64 (999999999999999999 - y) = 999999999999999999 - y := by unfold wrap64; omega
    rw [e2, Int.tdiv_eq_ediv_of_nonneg (by omega)]
    refine ⟨?_, ?_, by omega, by omega, by omega, by omega⟩
    · unfold wrap64; omega
    · unfold wrap64; omega
theorem join_is (d : Nat) (p x y : Int) (h : Pow d p) (x0 : 0 ≤ x) (x1 : x < 1073741824) (y0 : 0 ≤ y) (y1 : y < p) : dec_Join.f 40 x y (d : Int) = some ((normN d (x * p + y)).1, (normN d (x * p + y)).2, true) := by
  obtain ⟨t40, t39⟩ := ten40 d p h
  obtain ⟨n1, n2, n3, n4, n5, n6⟩ := join_num d p x y h x0 x1 y0 y1
  unfold dec_Join.f
  rw [if_neg (by omega), if_neg (by omega), if_neg (by omega), if_neg (by omega), t40]
  simp only [Option.bind_some]
  show dec_Join.j0 (39 + 1) x y (d : Int) (decide (y ≥ p)) = _
  simp only [dec_Join.j0]
  rw [if_neg (by simp; omega), bound39]
  simp only [Option.bind_some]
  rw [t39]
  simp only [Option.bind_some]
  rw [if_neg n5, if_neg n1, n2]
  have hn : dec_Norm.f (x * p + y) (d : Int) = some (normN d (x * p + y)) := by
    unfold dec_Norm.f
    rw [if_pos (by omega), Int.toNat_natCast]
  rw [hn]
  rfl
theorem do_point (d : Nat) (p x y Y M D H I S : Int) (h : Pow d p) (x0 : 0 ≤ x) (x1 : x < 1073741824) (y0 : 0 ≤ y) (y1 : y < p) (m : Int) (s : Nat) (hm : normN d (x * p + y) = (m, (s : Int))) (hs : s ≤ 6) (hz : s = 0 ∨ m % 10 ≠ 0) (m0 : 0 ≤ m) (m1 : m < 1000000000000000000) :
    act_Do.f 40 9 [0, 1] [⟨1, [x, 10]⟩, ⟨1, [y, (d : Int)]⟩] Y M D H I S = some (7, [m, (s : Int)], true) := by
  have hg : act_Do.g 40 9 [0, 1] [⟨1, [x, 10]⟩, ⟨1, [y, (d : Int)]⟩] Y M D H I S = some (some (7, [m, (s : Int)])) := by
    unfold act_Do.g
    rw [if_neg (by decide), if_pos rfl]
    unfold act_maker_point.f
    have h0 : act_maker_number.f 9 ([0, 1].map (rd_T27 [⟨1, [x, 10]⟩, ⟨1, [y, (d : Int)]⟩])) Y M D H I S 0 = some x := rfl
    have h1 : act_maker_number.f 9 ([0, 1].map (rd_T27 [⟨1, [x, 10]⟩, ⟨1, [y, (d : Int)]⟩])) Y M D H I S 1 = some y := rfl
    have h2 : rd (rd_T27 ([0, 1].map (rd_T27 [⟨1, [x, 10]⟩, ⟨1, [y, (d : Int)]⟩])) 1).f1 1 = (d : Int) := rfl
    rw [h0, h1, h2]
    simp only [Option.bind_some]
    rw [if_pos ⟨by simp, rfl, Nat.le_refl 2⟩, join_is d p x y h x0 x1 y0 y1, hm]
    rfl
  unfold act_Do.f
  rw [if_pos (by simp), hg]
  simp only [Option.bind_some, Option.isSome_some, dif_pos, Option.get_some, right_dec 40 m s (by omega) m1 (by omega) hz, if_true]
theorem do_neg (K : Nat) (m Y M D H I S : Int) (s : Nat) (hs : s ≤ 6) (hz : s = 0 ∨ m % 10 ≠ 0) (m0 : 0 ≤ m) (m1 : m < 1000000000000000000) :
    act_Do.f K 11 [0] [⟨7, [m, (s : Int)]⟩] Y M D H I S = some (7, [wrap64 (-m), (s : Int)], true) := by
  have hg : act_Do.g K 11 [0] [⟨7, [m, (s : Int)]⟩] Y M D H I S = some (some (7, [wrap64 (-m), (s : Int)])) := by
    unfold act_Do.g
    rw [if_neg (by decide), if_neg (by decide), if_pos rfl]
    unfold act_maker_negative.f
    rw [if_pos ⟨by simp, rfl, Nat.le_refl 2⟩]
    rfl
  have e : wrap64 (-m) = -m := by unfold wrap64; omega
  unfold act_Do.f
  rw [if_pos (by simp), hg]
  simp only [Option.bind_some, Option.isSome_some, dif_pos, Option.get_some]
  rw [e, right_dec K (-m) s (by omega) (by omega) (by omega) (by omega)]
  rfl
theorem j1_is (a3 m : Int) (s : Nat) (j : Nat) (hs : s ≤ 6) (hz : s = 0 ∨ m % 10 ≠ 0) (m0 : 0 ≤ m) (m1 : m < 1000000000000000000) : interlocutorlaw8_ActPoints.j1 (j + 5) a3 true m (s : Int) 7 [m, (s : Int)] = some true := by
  obtain ⟨t, ht⟩ := ref_is a3
  show interlocutorlaw8_ActPoints.j1 (j + 4 + 1) a3 true m (s : Int) 7 [m, (s : Int)] = some true
  simp only [interlocutorlaw8_ActPoints.j1, ht, Option.bind_some]
  rw [do_neg (j + 4) m _ _ _ _ _ _ s hs hz m0 m1]
  simp only [Option.bind_some, if_true, cmp_two]
  rfl
theorem l0_is (a3 m : Int) (s : Nat) (hs : s ≤ 6) (hz : s = 0 ∨ m % 10 ≠ 0) (m0 : 0 ≤ m) (m1 : m < 1000000000000000000) : ∀ (r : Nat) (v : Int) (j : Nat), r ≤ 100 → 0 ≤ v → v < 1000000000000000000 → normN r v = (m, (s : Int)) → interlocutorlaw8_ActPoints.l0 (r + 6 + j) a3 true v (r : Int) 7 [m, (s : Int)] = some true
  | 0, v, j, hr, v0, v1, h => by
    obtain ⟨e1, e2⟩ := Prod.mk.inj h
    obtain rfl : s = 0 := by have : ((0 : Nat) : Int) = (s : Int) := e2; omega
    obtain rfl : v = m := e1
    rw [show 0 + 6 + j = (j + 5) + 1 from by omega]
    simp only [interlocutorlaw8_ActPoints.l0]
    rw [if_neg (by omega)]
    exact j1_is a3 v 0 j hs hz m0 m1
  | r + 1, v, j, hr, v0, v1, h => by
    rw [show r + 1 + 6 + j = (r + 6 + j) + 1 from by omega]
    simp only [interlocutorlaw8_ActPoints.l0]
    rw [if_pos (by omega), Int.tmod_eq_emod_of_nonneg v0]
    unfold normN at h
    by_cases c : v % 10 = 0
    · rw [if_pos c] at h
      rw [if_pos c, Int.tdiv_eq_ediv_of_nonneg v0, show wrap64 (((r + 1 : Nat) : Int) - 1) = (r : Int) from by unfold wrap64; omega, show wrap64 (v / 10) = v / 10 from by unfold wrap64; omega]
      exact l0_is a3 m s hs hz m0 m1 r (v / 10) j (by omega) (by omega) (by omega) h
    · rw [if_neg c] at h
      rw [if_neg c]
      obtain ⟨e1, e2⟩ := Prod.mk.inj h
      obtain rfl : v = m := e1
      obtain rfl : s = r + 1 := by omega
      rw [show r + 6 + j = (r + 1 + j) + 5 from by omega]
      exact j1_is a3 v (r + 1) (r + 1 + j) hs hz m0 m1
theorem ActPoints : interlocutorlaw8_ActPoints.Pure := by
  intro a0 a1 a2 a3 _ _ _ _
  refine ⟨40, ?_⟩
  obtain ⟨x, hx, x0, x1⟩ := within_is a2 6 (by omega) (by omega)
  have e1 : wrap64 (1 + x) = 1 + x := by unfold wrap64; omega
  have e2 : wrap64 (1 + x - 1) = x := by unfold wrap64; omega
  unfold interlocutorlaw8_ActPoints.f
  simp only [interlocutorlaw8_known.f, hx, Option.bind_some, if_true, e1, e2]
  rw [if_pos (by omega), if_pos (show x < ((([10, 100, 1000, 10000, 100000, 1000000] : List Int).length : Nat) : Int) by simp; omega)]
  obtain ⟨q, rfl⟩ : ∃ q : Nat, x = q := ⟨x.toNat, by omega⟩
  have hp : ∃ p, rd [10, 100, 1000, 10000, 100000, 1000000] (q : Int) = p ∧ Pow (1 + q) p ∧ 0 < p ∧ p ≤ 1000000 := by
    obtain rfl | rfl | rfl | rfl | rfl | rfl : q = 0 ∨ q = 1 ∨ q = 2 ∨ q = 3 ∨ q = 4 ∨ q = 5 := by omega
    · exact ⟨10, rfl, by unfold Pow; omega, by decide, by decide⟩
    · exact ⟨100, rfl, by unfold Pow; omega, by decide, by decide⟩
    · exact ⟨1000, rfl, by unfold Pow; omega, by decide, by decide⟩
    · exact ⟨10000, rfl, by unfold Pow; omega, by decide, by decide⟩
    · exact ⟨100000, rfl, by unfold Pow; omega, by decide, by decide⟩
    · exact ⟨1000000, rfl, by unfold Pow; omega, by decide, by decide⟩
  obtain ⟨p, ep, hpow, p0, p1⟩ := hp
  rw [ep]
  obtain ⟨u, hu, u0, u1⟩ := within_is a0 1073741824 (by omega) (by omega)
  obtain ⟨v, hv, v0, v1⟩ := within_is a1 p p0 (by omega)
  obtain ⟨t, ht⟩ := ref_is a3
  rw [hu, hv, ht]
  simp only [Option.bind_some]
  obtain ⟨n1, n2, n3, n4, n5, n6⟩ := join_num (1 + q) p u v hpow u0 u1 v0 v1
  obtain ⟨m, s, hm, hs, hz, m0, m1⟩ := normN_is (1 + q) (u * p + v) n3
  rw [show 1 + (q : Int) = ((1 + q : Nat) : Int) from by omega, do_point (1 + q) p u v _ _ _ _ _ _ hpow u0 u1 v0 v1 m s hm (by omega) hz m0 (by omega)]
  simp only [Option.bind_some]
  rw [n2]
  have := l0_is a3 m s (by omega) hz m0 (by omega) (1 + q) (u * p + v) (33 - q) (by omega) n3 n4 hm
  rw [show 1 + q + 6 + (33 - q) = 40 from by omega] at this
  exact this

end Go.Proofs.Ytldfljlklfhjkaa.Pure
