/- What act makes and what the document makes, of children that are told: days from the one that it is, ahead and back. Conditions: as each states. -/
import Derived.Test.YtldfljlklfhjkaaPurF4
namespace Go.Proofs.Ytldfljlklfhjkaa.PE
open Go.RowKit Go.Proofs.YtldfljlklfhjkaaW.PrintWords Go.Proofs.YtldfljlklfhjkaaW.PrintLast Go.Proofs.YtldfljlklfhjkaaW.PrintMore
set_option linter.unusedVariables false
set_option linter.unusedSimpArgs false
namespace Ev
theorem far_of (t g : Int) (h0 : 0 ≤ t) (h1 : t ≤ 6) (g0 : 0 ≤ g) (g1 : g ≤ 6) : wrap64 (Int.tmod (wrap64 (wrap64 (t - g) + 6)) 7 + 1) = (t - g + 6) % 7 + 1 := by
  rw [w64 (n := t - g) (by omega) (by omega), w64 (n := t - g + 6) (by omega) (by omega), tm (by omega), w64 (by omega) (by omega)]
theorem day_is8 (y m d : Int) : ref8_day.F (y, m, d) = some ⟨4, [y, m, d]⟩ := rfl
theorem right_four (y m d : Int) : act_Right.F ⟨4, [y, m, d]⟩ = some (rightB y m d 0 0 0) := by
  unfold act_Right.F act_Right.t
  have e1 : act_fields.F 4 = some 3 := by kernel_rfl
  have qL : ((0 + 1 + 1 + 1 : Nat) : Int) = 3 := by omega
  simp only [e1, Option.bind_some, day_three [y, m, d] (by simp), bm_id, List.length_cons, List.length_nil]
  rw [if_pos qL, if_pos trivial]
  rfl
theorem rright_four (y m d : Int) : ref8_Right.F ⟨4, [y, m, d]⟩ = some (rightB y m d 0 0 0) := by
  obtain ⟨b, h1, h2⟩ := same ⟨4, [y, m, d]⟩
  rw [h2, ← h1, right_four]
theorem rweekday_far {y m d : Int} (hy0 : -1400000 ≤ y) (hy1 : y ≤ 1400000) (v : Valid y m d) (d0 : -600000000 ≤ daysOf y m d) (d1 : daysOf y m d ≤ 600000000) : interlocutorref1_Weekday.F (y, m, d) = some ((daysOf y m d + 3) % 7) := by
  have hd : interlocutorref1_Days.f y m d = some (daysOf y m d) := by
    obtain ⟨h1, h2, h3, h4⟩ := v; have := len_bd y m
    unfold interlocutorref1_Days.f daysOf
    by_cases c : m ≤ 2
    · rw [if_pos c, if_pos c, w64 (n := y - 1) (by omega) (by omega), rfloor_of _ _ (by omega) (by omega) (by omega) (by omega)]
      simp only [Option.bind_some]
      have e1 : (y - 1) - 400 * ((y - 1) / 400) = (y - 1) % 400 := by omega
      have e2 : (m + 9) % 12 = m + 9 := by omega
      simp (disch := omega) only [w64, td, tm, e1, e2]
      congr 1
      omega
    · rw [if_neg c, if_neg c, rfloor_of _ _ (by omega) (by omega) (by omega) (by omega)]
      simp only [Option.bind_some]
      have e1 : y - 400 * (y / 400) = y % 400 := by omega
      have e2 : (m + 9) % 12 = m - 3 := by omega
      simp (disch := omega) only [w64, td, tm, e1, e2]
      congr 1
      omega
  show interlocutorref1_Weekday.f y m d = _
  unfold interlocutorref1_Weekday.f
  rw [hd]; simp only [Option.bind_some]
  rw [w64 (by omega) (by omega), rfloor_of _ _ (by omega) (by omega) (by omega) (by omega)]
  simp only [Option.bind_some]
  simp (disch := omega) only [w64]
  congr 1; omega
section
variable {c0 c1 c2 : S27} {m : Mom}
theorem add_agree {y mo d : Int} (a b : Int) (hy : Near y) (v : Valid y mo d) : Agree ((civil_Add.F (y, mo, d, a, b)).bind fun t => bm t.2.2.2 ((act_value.F (4, [t.1, t.2.1, t.2.2.1])).bind fun t9 => some (some ⟨t9.f0, t9.f1⟩)) (some none)) ((ref1_Add.F (y, mo, d, a, b)).bind fun t => bm t.2.2.2 ((ref8_day.F (t.1, t.2.1, t.2.2.1)).bind fun t19 => some (⟨t19.f0, t19.f1⟩, true)) ((ref8_day.F (t.1, t.2.1, t.2.2.1)).bind fun t19 => some (⟨t19.f0, t19.f1⟩, false))) := by
  obtain ⟨r, hr⟩ := add_total a b hy v
  obtain ⟨Y, M, D, is⟩ := r
  have e1 : civil_Add.F (y, mo, d, a, b) = some (Y, M, D, is) := hr
  have e2 : ref1_Add.F (y, mo, d, a, b) = some (Y, M, D, is) := (radd_of hy v).trans hr
  rw [e1, e2]
  simp only [Option.bind_some, day_is8]
  cases is with
  | true =>
    simp only [bm_t, mk_is 4 [Y, M, D] (by simp), Option.bind_some]
    exact agree_yes
  | false => exact agree_no
/-- So many days, weeks, months, years. -/
theorem rel_agree (h0 : Kid c0) (h1 : Kid c1) (h2 : Kid c2) (hy : Near m.1) (v : Valid m.1 m.2.1 m.2.2.1) : Agree (act_relative.F (6, [c0, c1, c2], m)) (ref8_moved.F ([c0, c1, c2], m)) := by
  unfold act_relative.F act_relative.t ref8_moved.F ref8_moved.t
  have e0 := count_is (op := 6) (l := [c0, c1, c2]) (m := m) 0 (by omega) (by simp) h0
  have e1 := word_is (op := 6) (l := [c0, c1, c2]) (m := m) 1 (by omega) (by simp) h1
  have e2 := word_is (op := 6) (l := [c0, c1, c2]) (m := m) 2 (by omega) (by simp) h2
  have p1 : (0 : Int) < ((0 + 1 + 1 + 1 : Nat) : Int) := by omega
  have p2 : (1 : Int) < ((0 + 1 + 1 + 1 : Nat) : Int) := by omega
  have p3 : (2 : Int) < ((0 + 1 + 1 + 1 : Nat) : Int) := by omega
  simp only [List.length_cons, List.length_nil] at e0 e1 e2 ⊢
  simp only [show (6, [c0, c1, c2], m.1, m.2.1, m.2.2.1, m.2.2.2.1, m.2.2.2.2.1, m.2.2.2.2.2) = (6, [c0, c1, c2], m) from rfl, e0, e1, e2, rd0, rd1, rd2, if_pos p1, if_pos p2, if_pos p3, rcount_is h0, rword_is h1, rword_is h2, Option.bind_some]
  cases kC c0 with
  | none => cases kW c1 <;> cases kW c2 <;> exact agree_no
  | some n =>
  cases kW c1 with
  | none => cases kW c2 <;> exact agree_no
  | some u =>
  cases kW c2 with
  | none => exact agree_no
  | some s =>
  simp only [om_s, Option.getD_some, Option.isSome_some, bm_t]
  by_cases x0 : n ≥ -1000000
  rotate_left
  · rw [if_neg x0, if_pos (show n < -1000000 by omega)]; exact agree_no
  rw [if_pos x0, if_neg (show ¬ n < -1000000 by omega)]
  by_cases x1 : n ≤ 1000000
  rotate_left
  · rw [if_neg x1, if_pos (show n > 1000000 by omega)]; exact agree_no
  rw [if_pos x1, if_neg (show ¬ n > 1000000 by omega)]
  by_cases x2 : u ≥ 1
  rotate_left
  · rw [if_neg x2, if_pos (show u < 1 by omega)]; exact agree_no
  rw [if_pos x2, if_neg (show ¬ u < 1 by omega)]
  by_cases x3 : u ≤ 4
  rotate_left
  · rw [if_neg x3, if_pos (show u > 4 by omega)]; exact agree_no
  rw [if_pos x3, if_neg (show ¬ u > 4 by omega)]
  have z0 : wrap64 (1 - 1) = 0 := by kernel_rfl
  have z1 : wrap64 (2 - 1) = 1 := by kernel_rfl
  have z2 : wrap64 (3 - 1) = 2 := by kernel_rfl
  have z3 : wrap64 (4 - 1) = 3 := by kernel_rfl
  have i0 : (0 : Int) ≤ 0 := by omega
  have i1 : (0 : Int) ≤ 1 := by omega
  have i2 : (0 : Int) ≤ 2 := by omega
  have i3 : (0 : Int) ≤ 3 := by omega
  have j0 : (0 : Int) < 4 := by omega
  have j1 : (1 : Int) < 4 := by omega
  have j2 : (2 : Int) < 4 := by omega
  have j3 : (3 : Int) < 4 := by omega
  by_cases x4 : s = -1
  · subst x4
    rw [if_pos rfl, if_neg (show ¬ (-1 : Int) = 1 by omega), if_pos rfl]
    rcases (show u = 1 ∨ u = 2 ∨ u = 3 ∨ u = 4 by omega) with rfl | rfl | rfl | rfl
    · rw [z0, if_pos i0, if_pos j0, if_pos i0, if_pos j0, if_pos rfl]
      exact add_agree _ _ hy v
    · rw [z1, if_pos i1, if_pos j1, if_pos i1, if_pos j1, if_neg (show ¬ (2 : Int) = 1 by omega), if_pos rfl]
      exact add_agree _ _ hy v
    · rw [z2, if_pos i2, if_pos j2, if_pos i2, if_pos j2, if_neg (show ¬ (3 : Int) = 1 by omega), if_neg (show ¬ (3 : Int) = 2 by omega), if_pos rfl]
      exact add_agree _ _ hy v
    · rw [z3, if_pos i3, if_pos j3, if_pos i3, if_pos j3, if_neg (show ¬ (4 : Int) = 1 by omega), if_neg (show ¬ (4 : Int) = 2 by omega), if_neg (show ¬ (4 : Int) = 3 by omega), if_pos rfl]
      exact add_agree _ _ hy v
  · rw [if_neg x4]
    by_cases x5 : s = 1
    · subst x5
      rw [if_pos rfl, if_pos rfl]
      rcases (show u = 1 ∨ u = 2 ∨ u = 3 ∨ u = 4 by omega) with rfl | rfl | rfl | rfl
      · rw [z0, if_pos i0, if_pos j0, if_pos i0, if_pos j0, if_pos rfl]
        exact add_agree _ _ hy v
      · rw [z1, if_pos i1, if_pos j1, if_pos i1, if_pos j1, if_neg (show ¬ (2 : Int) = 1 by omega), if_pos rfl]
        exact add_agree _ _ hy v
      · rw [z2, if_pos i2, if_pos j2, if_pos i2, if_pos j2, if_neg (show ¬ (3 : Int) = 1 by omega), if_neg (show ¬ (3 : Int) = 2 by omega), if_pos rfl]
        exact add_agree _ _ hy v
      · rw [z3, if_pos i3, if_pos j3, if_pos i3, if_pos j3, if_neg (show ¬ (4 : Int) = 1 by omega), if_neg (show ¬ (4 : Int) = 2 by omega), if_neg (show ¬ (4 : Int) = 3 by omega), if_pos rfl]
        exact add_agree _ _ hy v
    · rw [if_neg x5, if_neg x5, if_neg x4]
      exact agree_no
/-- The next of a weekday. -/
theorem next_agree (h0 : Kid c0) (y0 : 1 ≤ m.1) (y1 : m.1 ≤ 9999) (v : Valid m.1 m.2.1 m.2.2.1) : Agree (act_next.F (7, [c0], m)) (ref8_next.F ([c0], m)) := by
  unfold act_next.F act_next.t ref8_next.F ref8_next.t
  have e0 := word_is (op := 7) (l := [c0]) (m := m) 0 (by omega) (by simp) h0
  have q1 : (0 : Int) < ((0 + 1 : Nat) : Int) := by omega
  simp only [List.length_cons, List.length_nil] at e0 ⊢
  simp only [show (7, [c0], m.1, m.2.1, m.2.2.1, m.2.2.2.1, m.2.2.2.2.1, m.2.2.2.2.2) = (7, [c0], m) from rfl, e0, rd0, if_pos q1, rword_is h0, Option.bind_some]
  cases kW c0 with
  | none => exact agree_no
  | some t =>
  simp only [om_s, Option.getD_some, Option.isSome_some, bm_t]
  by_cases x0 : t ≥ 0
  rotate_left
  · rw [if_neg x0, if_pos (show t < 0 by omega)]; exact agree_no
  rw [if_pos x0, if_neg (show ¬ t < 0 by omega)]
  by_cases x1 : t ≤ 6
  rotate_left
  · rw [if_neg x1, if_pos (show t > 6 by omega)]; exact agree_no
  rw [if_pos x1, if_neg (show ¬ t > 6 by omega)]
  have near : Near m.1 := ⟨by omega, by omega⟩
  have hD := days_near near v
  rw [weekday_of near v, show interlocutorref1_Days.F (m.1, m.2.1, m.2.2.1) = some (daysOf m.1 m.2.1 m.2.2.1) from rdays_of near v]
  simp only [Option.bind_some]
  have hA : ∀ b : Int, 0 ≤ b → b ≤ 7 → civil_Add.F (m.1, m.2.1, m.2.2.1, 0, b) = if civY (daysOf m.1 m.2.1 m.2.2.1 + b) < 1 ∨ 9999 < civY (daysOf m.1 m.2.1 m.2.2.1 + b) then some (0, 0, 0, false) else some (civY (daysOf m.1 m.2.1 m.2.2.1 + b), civM (daysOf m.1 m.2.1 m.2.2.1 + b), civD (daysOf m.1 m.2.1 m.2.2.1 + b), true) := fun b b0 b1 => by
    have := add_of near v (mo := 0) (da := b) (by omega) (by omega) (by omega) (by omega)
    rw [addN_days v] at this
    exact this
  rw [far_of t _ x0 x1 (by omega) (by omega), hA _ (by omega) (by omega)]
  generalize daysOf m.1 m.2.1 m.2.2.1 = D at *
  have civ : ∀ n : Int, -500000000 ≤ n → n ≤ 500000000 → ref1_Civil.F n = some (civY n, civM n, civD n) := fun n a b => rciv_of (by omega) (by omega)
  have wd : ∀ n : Int, -500000000 ≤ n → n ≤ 500000000 → interlocutorref1_Weekday.F (civY n, civM n, civD n) = some ((n + 3) % 7) := fun n a b => by
    have hn := civ_near (n := n) (by omega) (by omega)
    obtain ⟨vv, ev⟩ := days_civ n
    have e : daysOf (civY n) (civM n) (civD n) = n := ev
    have : -1000000 ≤ civY n ∧ civY n ≤ 1000000 ∨ True := .inr trivial
    have hb : -1400000 ≤ civY n ∧ civY n ≤ 1400000 := by
      unfold civY onY
      have r0 : 0 ≤ (n + 719468) % 146097 := by omega
      have r1 : (n + 719468) % 146097 < 146097 := by omega
      have := doy_bd _ r0 r1
      split <;> omega
    have h9 : interlocutorref1_Weekday.F (civY n, civM n, civD n) = some ((daysOf (civY n) (civM n) (civD n) + 3) % 7) := rweekday_far hb.1 hb.2 vv (by rw [e]; omega) (by rw [e]; omega)
    rw [h9, e]
  have fin : ∀ N : Int, Agree ((if civY N < 1 ∨ 9999 < civY N then some ((0, 0, 0, false) : Int × Int × Int × Bool) else some (civY N, civM N, civD N, true)).bind fun t => bm t.2.2.2 ((act_value.F (4, [t.1, t.2.1, t.2.2.1])).bind fun t9 => some (some ⟨t9.f0, t9.f1⟩)) (some none)) ((ref8_day.F (civY N, civM N, civD N)).bind fun t11 => some (⟨t11.f0, t11.f1⟩, true)) := fun N => by
    by_cases c : civY N < 1 ∨ 9999 < civY N
    · rw [if_pos c]
      refine ⟨none, _, true, rfl, rfl, .inr (.inr (.inr ⟨rfl, ?_⟩))⟩
      rw [show ref8_Right.F { f0 := 4, f1 := [civY N, civM N, civD N] } = some (rightB (civY N) (civM N) (civD N) 0 0 0) from rright_four _ _ _]
      congr 1
      unfold rightB
      rw [decide_eq_false_iff_not]
      omega
    · rw [if_neg c]
      simp only [Option.bind_some, bm_t, mk_is 4 [civY N, civM N, civD N] (by simp), day_is8]
      exact agree_yes
  have a1 : wrap64 (D + 1) = D + 1 := w64 (by omega) (by omega)
  have a2 : wrap64 (D + 1 + 1) = D + 2 := by rw [w64 (by omega) (by omega)]; omega
  have a3 : wrap64 (D + 2 + 1) = D + 3 := by rw [w64 (by omega) (by omega)]; omega
  have a4 : wrap64 (D + 3 + 1) = D + 4 := by rw [w64 (by omega) (by omega)]; omega
  have a5 : wrap64 (D + 4 + 1) = D + 5 := by rw [w64 (by omega) (by omega)]; omega
  have a6 : wrap64 (D + 5 + 1) = D + 6 := by rw [w64 (by omega) (by omega)]; omega
  have a7 : wrap64 (D + 6 + 1) = D + 7 := by rw [w64 (by omega) (by omega)]; omega
  simp only [a1, a2, a3, a4, a5, a6, a7, civ (D + 1) (by omega) (by omega), civ (D + 2) (by omega) (by omega), civ (D + 3) (by omega) (by omega), civ (D + 4) (by omega) (by omega), civ (D + 5) (by omega) (by omega), civ (D + 6) (by omega) (by omega), civ (D + 7) (by omega) (by omega), wd (D + 1) (by omega) (by omega), wd (D + 2) (by omega) (by omega), wd (D + 3) (by omega) (by omega), wd (D + 4) (by omega) (by omega), wd (D + 5) (by omega) (by omega), wd (D + 6) (by omega) (by omega), wd (D + 7) (by omega) (by omega), Option.bind_some]
  rcases (show (t - (D + 3) % 7 + 6) % 7 + 1 = 1 ∨ (t - (D + 3) % 7 + 6) % 7 + 1 = 2 ∨ (t - (D + 3) % 7 + 6) % 7 + 1 = 3 ∨ (t - (D + 3) % 7 + 6) % 7 + 1 = 4 ∨ (t - (D + 3) % 7 + 6) % 7 + 1 = 5 ∨ (t - (D + 3) % 7 + 6) % 7 + 1 = 6 ∨ (t - (D + 3) % 7 + 6) % 7 + 1 = 7 by omega) with e | e | e | e | e | e | e
  · rw [e, if_pos (show (D + 1 + 3) % 7 = t by omega)]
    exact fin (D + 1)
  · rw [e, if_neg (show ¬ (D + 1 + 3) % 7 = t by omega), if_pos (show (D + 2 + 3) % 7 = t by omega)]
    exact fin (D + 2)
  · rw [e, if_neg (show ¬ (D + 1 + 3) % 7 = t by omega), if_neg (show ¬ (D + 2 + 3) % 7 = t by omega), if_pos (show (D + 3 + 3) % 7 = t by omega)]
    exact fin (D + 3)
  · rw [e, if_neg (show ¬ (D + 1 + 3) % 7 = t by omega), if_neg (show ¬ (D + 2 + 3) % 7 = t by omega), if_neg (show ¬ (D + 3 + 3) % 7 = t by omega), if_pos (show (D + 4 + 3) % 7 = t by omega)]
    exact fin (D + 4)
  · rw [e, if_neg (show ¬ (D + 1 + 3) % 7 = t by omega), if_neg (show ¬ (D + 2 + 3) % 7 = t by omega), if_neg (show ¬ (D + 3 + 3) % 7 = t by omega), if_neg (show ¬ (D + 4 + 3) % 7 = t by omega), if_pos (show (D + 5 + 3) % 7 = t by omega)]
    exact fin (D + 5)
  · rw [e, if_neg (show ¬ (D + 1 + 3) % 7 = t by omega), if_neg (show ¬ (D + 2 + 3) % 7 = t by omega), if_neg (show ¬ (D + 3 + 3) % 7 = t by omega), if_neg (show ¬ (D + 4 + 3) % 7 = t by omega), if_neg (show ¬ (D + 5 + 3) % 7 = t by omega), if_pos (show (D + 6 + 3) % 7 = t by omega)]
    exact fin (D + 6)
  · rw [e, if_neg (show ¬ (D + 1 + 3) % 7 = t by omega), if_neg (show ¬ (D + 2 + 3) % 7 = t by omega), if_neg (show ¬ (D + 3 + 3) % 7 = t by omega), if_neg (show ¬ (D + 4 + 3) % 7 = t by omega), if_neg (show ¬ (D + 5 + 3) % 7 = t by omega), if_neg (show ¬ (D + 6 + 3) % 7 = t by omega), if_pos (show (D + 7 + 3) % 7 = t by omega)]
    exact fin (D + 7)
end
end Ev
end Go.Proofs.Ytldfljlklfhjkaa.PE
