/- What is picked is as it is, of whatever kind, and by itself: the plain statement behind the row. Conditions: none. -/
import Derived.Test.YtldfljlklfhjkaaPPkx9
namespace Go.Proofs.Ytldfljlklfhjkaa.Pure
open Go.RowKit Go.Proofs.Ytldfljlklfhjkaa.PPk Go.Proofs.YtldfljlklfhjkaaW.PrintWords Go.Proofs.YtldfljlklfhjkaaW.PrintLast

theorem within_is (a n : Int) (h : 0 < n) (h2 : n ≤ 9007199254740992) : ∃ x, interlocutorlaw8_within.f a n = some x ∧ 0 ≤ x ∧ x < n := by
  unfold interlocutorlaw8_within.f
  rw [if_neg (by omega)]
  have h0 : Int.tmod a n < n := Int.tmod_lt_of_pos a h
  have h1 : -n < Int.tmod a n := by have := Int.lt_tmod_of_pos a h; omega
  by_cases c : Int.tmod a n < 0
  · rw [if_pos c]; exact ⟨_, rfl, by unfold wrap64; omega, by unfold wrap64; omega⟩
  · rw [if_neg c]; exact ⟨_, rfl, by omega, h0⟩
theorem within1_is (a n : Int) (h : 0 < n) (h2 : n ≤ 9007199254740992) : ∃ x, interlocutorlaw1_within.f a n = some x ∧ 0 ≤ x ∧ x < n := within_is a n h h2
theorem length_is (y m : Int) : ∃ n, interlocutorref1_Length.f y m = some n ∧ 28 ≤ n ∧ n ≤ 31 := by
  have hl : ∃ b, interlocutorref1_Leap.f y = some b := by
    unfold interlocutorref1_Leap.f
    repeat' split
    all_goals exact ⟨_, rfl⟩
  obtain ⟨b, hb⟩ := hl
  unfold interlocutorref1_Length.f
  rw [hb]
  simp only [Option.bind_some]
  repeat' split
  all_goals exact ⟨_, rfl, by omega, by omega⟩
theorem ref_is (a : Int) : ∃ t, interlocutorlaw8_Ref.f a = some t := by
  unfold interlocutorlaw8_Ref.f interlocutorlaw1_Day.f
  obtain ⟨x, hx, x0, x1⟩ := within1_is (wrap64 (Int.tdiv a 400)) 9999 (by omega) (by omega)
  obtain ⟨y, hy, y0, y1⟩ := within1_is a 12 (by omega) (by omega)
  obtain ⟨n, hn, n0, n1⟩ := length_is (wrap64 (1 + x)) (wrap64 (1 + y))
  obtain ⟨z, hz, _, _⟩ := within1_is (wrap64 (Int.tdiv a 12)) n (by omega) (by omega)
  obtain ⟨p, hp, _, _⟩ := within_is (wrap64 (Int.tdiv a 7)) 24 (by omega) (by omega)
  obtain ⟨q, hq, _, _⟩ := within_is (wrap64 (Int.tdiv a 11)) 60 (by omega) (by omega)
  obtain ⟨r, hr, _, _⟩ := within_is (wrap64 (Int.tdiv a 13)) 60 (by omega) (by omega)
  simp [hx, hy, hn, hz, hp, hq, hr]
theorem within2_is (a n : Int) (h : 0 < n) (h2 : n ≤ 9007199254740992) : ∃ x, interlocutorlaw2_within.f a n = some x ∧ 0 ≤ x ∧ x < n := within_is a n h h2
theorem day_is (a : Int) : ∃ t, interlocutorlaw1_Day.f a false = some t := by
  unfold interlocutorlaw1_Day.f
  obtain ⟨x, hx, x0, x1⟩ := within1_is (wrap64 (Int.tdiv a 400)) 9999 (by omega) (by omega)
  obtain ⟨y, hy, y0, y1⟩ := within1_is a 12 (by omega) (by omega)
  obtain ⟨n, hn, n0, n1⟩ := length_is (wrap64 (1 + x)) (wrap64 (1 + y))
  obtain ⟨z, hz, _, _⟩ := within1_is (wrap64 (Int.tdiv a 12)) n (by omega) (by omega)
  simp [hx, hy, hn, hz]
theorem floor_is (x : Int) : ∃ r, interlocutorref1_floor.f x 400 = some r := by
  unfold interlocutorref1_floor.f
  rw [if_neg (by omega)]
  split
  all_goals exact ⟨_, rfl⟩
theorem days_is (y m d : Int) : ∃ r, interlocutorref1_Days.f y m d = some r := by
  unfold interlocutorref1_Days.f
  obtain ⟨p, hp⟩ := floor_is (wrap64 (y - 1))
  obtain ⟨q, hq⟩ := floor_is y
  rw [hp, hq]
  split
  all_goals exact ⟨_, rfl⟩
theorem value_l0 (F0 : Int) (F1 : List Int) : ∀ (s j : Nat) (p : Int), s ≤ 100 → ∃ a b, interlocutorlaw8_Value.l0 (s + 1 + j) p (s : Int) F0 F1 = some (F0, [a, b])
  | 0, j, p, _ => by
    refine ⟨p, 0, ?_⟩
    rw [show 0 + 1 + j = j + 1 from by omega]
    simp only [interlocutorlaw8_Value.l0]
    rw [if_neg (by omega)]
    rfl
  | s + 1, j, p, h => by
    rw [show s + 1 + 1 + j = (s + 1 + j) + 1 from by omega]
    simp only [interlocutorlaw8_Value.l0]
    rw [if_pos (by omega)]
    by_cases c : Int.tmod p 10 = 0
    · rw [if_pos c, show wrap64 (((s + 1 : Nat) : Int) - 1) = (s : Int) from by unfold wrap64; omega]
      exact value_l0 F0 F1 s j _ (by omega)
    · rw [if_neg c]
      exact ⟨_, _, rfl⟩
theorem make_is (K : Nat) (a b : Int) : ∃ (p : Int) (s : Nat), interlocutorlaw2_Make.f (K + 1) a b = some (p, (s : Int)) ∧ s ≤ 18 := by
  unfold interlocutorlaw2_Make.f
  obtain ⟨x, hx, _, _⟩ := within2_is b 7 (by omega) (by omega)
  obtain ⟨y, hy, _, _⟩ := within2_is a 2000 (by omega) (by omega)
  obtain ⟨z, hz, _, _⟩ := within2_is b 11 (by omega) (by omega)
  obtain ⟨u, hu, u0, u1⟩ := within2_is (wrap64 (Int.tdiv b 7)) 19 (by omega) (by omega)
  obtain ⟨s, rfl⟩ : ∃ s : Nat, u = s := ⟨u.toNat, by omega⟩
  have key : ∀ v, ∃ p, interlocutorlaw2_Make.j0 (K + 1) b v = some (p, (s : Int)) := by
    intro v
    simp only [interlocutorlaw2_Make.j0, hz, hu, Option.bind_some]
    split
    all_goals exact ⟨_, rfl⟩
  rw [hx, hy]
  simp only [Option.bind_some]
  split
  · obtain ⟨p, hp⟩ := key (wrap64 (y - 1000)); exact ⟨p, s, hp, by omega⟩
  · obtain ⟨p, hp⟩ := key (Int.tmod a 1000000000000000000); exact ⟨p, s, hp, by omega⟩
theorem value_is (K : Nat) (n a b : Int) : ∃ kd fs, interlocutorlaw8_Value.f (K + 20) n a b = some (kd, fs) ∧ fs.length ≤ 6 := by
  unfold interlocutorlaw8_Value.f
  obtain ⟨d1, h1⟩ := day_is a
  obtain ⟨d2, h2⟩ := day_is b
  obtain ⟨x, hx, x0, x1⟩ := within_is n 7 (by omega) (by omega)
  obtain ⟨p1, q1, _, _⟩ := within_is a 24 (by omega) (by omega)
  obtain ⟨p2, q2, _, _⟩ := within_is b 60 (by omega) (by omega)
  obtain ⟨p3, q3, _, _⟩ := within_is (wrap64 (Int.tdiv a 24)) 60 (by omega) (by omega)
  obtain ⟨p4, q4, _, _⟩ := within_is b 24 (by omega) (by omega)
  obtain ⟨p5, q5, _, _⟩ := within_is (wrap64 (Int.tdiv b 24)) 60 (by omega) (by omega)
  obtain ⟨p6, q6, _, _⟩ := within_is (wrap64 (Int.tdiv b 1440)) 60 (by omega) (by omega)
  obtain ⟨p7, q7, _, _⟩ := within_is b 1000 (by omega) (by omega)
  obtain ⟨p8, q8, _, _⟩ := within_is b 3 (by omega) (by omega)
  obtain ⟨p9, q9, _, _⟩ := within_is a 9007199254740992 (by omega) (by omega)
  obtain ⟨pm, sm, hm, hs⟩ := make_is (K + 19) a b
  obtain ⟨e1, g1⟩ := days_is d1.1 d1.2.1 d1.2.2
  obtain ⟨e2, g2⟩ := days_is d2.1 d2.2.1 d2.2.2
  obtain ⟨l1, l2, hl⟩ := value_l0 7 [pm, (sm : Int)] sm (K + 19 - sm) pm (by omega)
  rw [show sm + 1 + (K + 19 - sm) = K + 20 from by omega] at hl
  rw [show K + 19 + 1 = K + 20 from rfl] at hm
  simp only [h1, h2, hx, q1, q2, q3, q4, q5, q6, q7, q8, q9, hm, g1, g2, hl, Option.bind_some]
  repeat' split
  all_goals exact ⟨_, _, rfl, by simp⟩
theorem child_l0 (x3 x4 : Int) : ∀ (r j : Nat) (x5 x6 : Int), x6 < 2 ^ r → ∃ b, interlocutorlaw8_Child.l0 (r + 1 + j) x3 x4 x5 x6 = some (1, [x4, b])
  | 0, j, x5, x6, h => by
    rw [show 0 + 1 + j = j + 1 from by omega]
    simp only [interlocutorlaw8_Child.l0]
    obtain ⟨p, q, _, _⟩ := within_is (wrap64 (Int.tdiv x3 18)) 2 (by omega) (by omega)
    rw [if_neg (by simp at h; omega), q]
    exact ⟨_, rfl⟩
  | r + 1, j, x5, x6, h => by
    rw [show r + 1 + 1 + j = (r + 1 + j) + 1 from by omega]
    simp only [interlocutorlaw8_Child.l0]
    by_cases c : x6 ≥ 10
    · rw [if_pos c]
      refine child_l0 x3 x4 r j _ _ ?_
      rw [Int.pow_succ] at h
      have e : Int.tdiv x6 10 = x6 / 10 := Int.tdiv_eq_ediv_of_nonneg (by omega)
      have hp : (0 : Int) < 2 ^ r := Int.pow_pos (by omega)
      rw [e]
      have e2 : wrap64 (x6 / 10) ≤ x6 / 10 := by unfold wrap64; omega
      omega
    · rw [if_neg c]
      obtain ⟨p, q, _, _⟩ := within_is (wrap64 (Int.tdiv x3 18)) 2 (by omega) (by omega)
      rw [q]
      exact ⟨_, rfl⟩
theorem rd_mem (l : List Int) (i : Int) (P : Int → Prop) (h : ∀ x ∈ l, P x) (h0 : 0 ≤ i) (h1 : i < l.length) : P (rd l i) := by
  unfold rd
  rw [List.getD_eq_getElem?_getD, List.getElem?_eq_getElem (by omega)]
  exact h _ (List.getElem_mem _)
theorem child_j2 (K : Nat) (x3 x10 : Int) (b : Bool) : ∃ kd fs, interlocutorlaw8_Child.j2 (K + 21) x3 x10 b = some (kd, fs) ∧ fs.length ≤ 6 := by
  show ∃ kd fs, interlocutorlaw8_Child.j2 (K + 20 + 1) x3 x10 b = some (kd, fs) ∧ fs.length ≤ 6
  simp only [interlocutorlaw8_Child.j2]
  obtain ⟨p, q, p0, p1⟩ := within_is x3 14 (by omega) (by omega)
  obtain ⟨kd, fs, hv, hl⟩ := value_is K x3 (wrap64 (Int.tdiv x3 3)) (wrap64 (Int.tdiv x3 5))
  rw [q, hv]
  simp only [Option.bind_some]
  split
  · rw [if_pos (by simp; omega)]
    exact ⟨_, _, rfl, by simp⟩
  · split
    · exact ⟨_, _, rfl, by simp⟩
    · exact ⟨_, _, rfl, hl⟩
theorem child_j0 (K : Nat) (x3 x10 : Int) (b : Bool) : ∃ kd fs, interlocutorlaw8_Child.j0 (K + 22) x3 x10 b = some (kd, fs) ∧ fs.length ≤ 6 := by
  show ∃ kd fs, interlocutorlaw8_Child.j0 (K + 21 + 1) x3 x10 b = some (kd, fs) ∧ fs.length ≤ 6
  simp only [interlocutorlaw8_Child.j0, Option.bind_some]
  obtain ⟨p, q, p0, p1⟩ := within_is x3 18 (by omega) (by omega)
  rw [q]
  simp only [Option.bind_some]
  split
  · have hlen : p < ((([0, 1, 2, 5, 12, 13, 24, 29, 31, 60, 99, 100, 2024, 9999, 10000, 999, 1000000, 1000001] : List Int).length : Nat) : Int) := by simp; omega
    rw [if_pos hlen]
    have hb : rd [0, 1, 2, 5, 12, 13, 24, 29, 31, 60, 99, 100, 2024, 9999, 10000, 999, 1000000, 1000001] p < 2 ^ 20 := rd_mem _ p (fun x => x < 2 ^ 20) (by decide) p0 hlen
    obtain ⟨c, hc⟩ := child_l0 x3 (rd [0, 1, 2, 5, 12, 13, 24, 29, 31, 60, 99, 100, 2024, 9999, 10000, 999, 1000000, 1000001] p) 20 K 1 _ hb
    rw [show 20 + 1 + K = K + 21 from by omega] at hc
    rw [hc]
    exact ⟨_, _, rfl, by simp⟩
  · split
    · exact child_j2 K x3 x10 _
    · exact child_j2 K x3 x10 _
theorem child_is (K : Nat) (n : Int) : ∃ kd fs, interlocutorlaw8_Child.f (K + 22) n = some (kd, fs) ∧ fs.length ≤ 6 := by
  unfold interlocutorlaw8_Child.f
  obtain ⟨p, q, _, _⟩ := within_is n 8 (by omega) (by omega)
  rw [q]
  simp only [Option.bind_some]
  split
  · exact child_j0 K _ _ _
  · split
    · exact child_j0 K _ _ _
    · exact child_j0 K _ _ _
theorem order_same (a : Int) : interlocutorref10_order.f a a = some 0 := by
  unfold interlocutorref10_order.f
  rw [if_neg (by omega), if_neg (by omega)]
theorem cmp_l0 (k : Int) (l : List Int) (hl : l.length ≤ 100) : ∀ (r i j : Nat), i + r = l.length → interlocutorref10_Cmp.l0 (r + 1 + j) i k l k l = some 0
  | 0, i, j, h => by
    rw [show 0 + 1 + j = j + 1 from by omega]
    simp only [interlocutorref10_Cmp.l0]
    rw [if_neg (by omega)]
  | r + 1, i, j, h => by
    rw [show r + 1 + 1 + j = (r + 1 + j) + 1 from by omega]
    simp only [interlocutorref10_Cmp.l0]
    rw [if_pos (by omega), if_pos (by omega), if_pos (by omega), order_same]
    simp only [Option.bind_some, if_true]
    rw [show wrap64 ((i : Int) + 1) = ((i + 1 : Nat) : Int) from by unfold wrap64; omega]
    exact cmp_l0 k l hl r (i + 1) j (by omega)
theorem cmp_same (K : Nat) (k : Int) (l : List Int) (hl : l.length ≤ 6) : interlocutorref10_Cmp.f (K + 7) k l k l = some 0 := by
  unfold interlocutorref10_Cmp.f
  rw [order_same, order_same]
  simp only [Option.bind_some, if_true]
  have := cmp_l0 k l (by omega) l.length 0 (K + 6 - l.length) (by omega)
  rw [show l.length + 1 + (K + 6 - l.length) = K + 7 from by omega] at this
  exact this
theorem picks_l0 (x2 x8 F0 : Int) (x7 : List S27) (h0 : 0 ≤ x8) (h1 : x8 < x7.length) (hl : (rd_T27 x7 x8).f1.length ≤ 6) : ∀ (r i j : Nat) (F : List Int), F.length ≤ 100 → i + r = F.length → interlocutorlaw8_ActPicks.l0 (r + 8 + j) x2 x7 x8 x7 i F0 F = some true
  | 0, i, j, F, hF, h => by
    rw [show 0 + 8 + j = (j + 7) + 1 from by omega]
    simp only [interlocutorlaw8_ActPicks.l0]
    rw [if_neg (by omega), if_pos h0, if_pos h1, if_pos h1, cmp_same j _ _ hl]
    rfl
  | r + 1, i, j, F, hF, h => by
    rw [show r + 1 + 8 + j = (r + 8 + j) + 1 from by omega]
    simp only [interlocutorlaw8_ActPicks.l0]
    rw [if_pos (by omega), if_pos (by omega), show wrap64 ((i : Int) + 1) = ((i + 1 : Nat) : Int) from by unfold wrap64; omega]
    exact picks_l0 x2 x8 F0 x7 h0 h1 hl r (i + 1) j _ (by simpa using hF) (by simp; omega)
theorem do_pick_is (K : Nat) (p y m d H I S : Int) (L : List S27) (h0 : 0 ≤ p) (h1 : p < L.length) (hl : (rd_T27 L p).f1.length ≤ 6) : act_Do.f K 0 [p] L y m d H I S = some ((rd_T27 L p).f0, (rd_T27 L p).f1, true) := by
  unfold act_Do.f
  rw [if_neg (by simp), if_pos ⟨rfl, rfl, by simp; omega, by show (rd_T27 L p).f1.length ≤ 1000000; omega⟩]
  rfl
theorem ActPicks : interlocutorlaw8_ActPicks.Pure := by
  intro a0 a1 a2 _ _ _
  refine ⟨40, ?_⟩
  unfold interlocutorlaw8_ActPicks.f
  obtain ⟨x, hx, _, _⟩ := within_is a0 1099511627776 (by omega) (by omega)
  obtain ⟨k1, f1, c1, l1⟩ := child_is 18 x
  obtain ⟨k2, f2, c2, l2⟩ := child_is 18 (wrap64 (x + 1))
  obtain ⟨k3, f3, c3, l3⟩ := child_is 18 (wrap64 (x + 6))
  obtain ⟨q, hq, q0, q1⟩ := within_is a1 3 (by omega) (by omega)
  obtain ⟨t, ht⟩ := ref_is a0
  simp only [interlocutorlaw8_known.f, hx, c1, c2, c3, hq, ht, Option.bind_some, if_true]
  have hlen : q < ((([(⟨k1, f1⟩ : S27), ⟨k2, f2⟩, ⟨k3, f3⟩] : List S27).length : Nat) : Int) := by simp; omega
  have hl : (rd_T27 [(⟨k1, f1⟩ : S27), ⟨k2, f2⟩, ⟨k3, f3⟩] q).f1.length ≤ 6 := by
    obtain rfl | rfl | rfl : q = 0 ∨ q = 1 ∨ q = 2 := by omega
    · exact l1
    · exact l2
    · exact l3
  rw [do_pick_is 40 q _ _ _ _ _ _ _ q0 hlen hl]
  generalize hL : ([(⟨k1, f1⟩ : S27), ⟨k2, f2⟩, ⟨k3, f3⟩] : List S27) = L at *
  simp only [Option.bind_some, if_true]
  rw [if_pos q0, if_pos hlen, cmp_same 33 _ _ hl]
  simp only [Option.bind_some]
  show interlocutorlaw8_ActPicks.j0 (39 + 1) a2 L q L false _ _ = some true
  simp only [interlocutorlaw8_ActPicks.j0]
  rw [if_neg (by decide)]
  have := picks_l0 a2 q (rd_T27 L q).f0 L q0 hlen hl (rd_T27 L q).f1.length 0 (31 - (rd_T27 L q).f1.length) (rd_T27 L q).f1 (by omega) (by omega)
  rw [show (rd_T27 L q).f1.length + 8 + (31 - (rd_T27 L q).f1.length) = 39 from by omega] at this
  exact this

end Go.Proofs.Ytldfljlklfhjkaa.Pure
