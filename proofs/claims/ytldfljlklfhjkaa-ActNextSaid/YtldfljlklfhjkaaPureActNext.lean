/- The next of a weekday is behind the reference, by one to seven days: the plain statement behind the row. Conditions: none. -/
import Derived.Test.YtldfljlklfhjkaaPNxx8
import Derived.Test.YtldfljlklfhjkaaCal
namespace Go.Proofs.Ytldfljlklfhjkaa.Pure
open Go.RowKit Go.Proofs.Ytldfljlklfhjkaa.PNx Go.Proofs.YtldfljlklfhjkaaW.PrintWords Go.Proofs.YtldfljlklfhjkaaW.PrintLast

theorem within8_of (a n : Int) (ha : -9223372036854775808 ≤ a) (ha2 : a ≤ 9223372036854775807) (h0 : 1 ≤ n) (h1 : n ≤ 4611686018427387904) : interlocutorlaw8_within.f a n = some (a % n) := within_of a n ha ha2 h0 h1
theorem ref_of (a : Int) (h : -9223372036854775808 ≤ a) (h2 : a ≤ 9223372036854775807) : ∃ y m d H I S, interlocutorlaw8_Ref.f a = some (y, m, d, H, I, S) ∧ Valid y m d ∧ Near y ∧ 1 ≤ y ∧ y ≤ 9999 := by
  obtain ⟨y, m, d, hd, v, near, _, hy⟩ := day_of a false h h2
  unfold interlocutorlaw8_Ref.f
  have e7 := tdiv_bd a 7 h h2 (by omega)
  have e11 := tdiv_bd a 11 h h2 (by omega)
  have e13 := tdiv_bd a 13 h h2 (by omega)
  rw [hd, e7.2.2, e11.2.2, e13.2.2, within8_of _ 24 e7.1 e7.2.1 (by omega) (by omega), within8_of _ 60 e11.1 e11.2.1 (by omega) (by omega), within8_of _ 60 e13.1 e13.2.1 (by omega) (by omega)]
  exact ⟨y, m, d, _, _, _, rfl, v, near, (hy rfl).1, (hy rfl).2⟩
theorem right_date (k : Nat) (y m d : Int) (h1 : 1 ≤ y) (h2 : y ≤ 9999) (v : Valid y m d) : act_Right.f k 4 [y, m, d] = some true := by
  have hf : act_fields.f 4 = some 3 := by kernel_rfl
  obtain ⟨v1, v2, v3, v4⟩ := v
  have hr : rightB y m d 0 0 0 = true := by
    unfold rightB
    simp [h1, h2, v1, v2, v3, v4]
  have hd : act_day.f [y, m, d] = some (rightB y m d 0 0 0) := by
    unfold act_day.f civil_Right.f
    rfl
  unfold act_Right.f
  rw [hf]
  simp only [Option.bind_some]
  rw [if_pos (show ((([y, m, d] : List Int).length : Nat) : Int) = 3 from rfl), if_pos trivial, hd, hr]
  rfl
theorem far_of (t g : Int) (h0 : 0 ≤ t) (h1 : t ≤ 6) (g0 : 0 ≤ g) (g1 : g ≤ 6) : wrap64 (Int.tmod (wrap64 (wrap64 (t - g) + 6)) 7 + 1) = (t - g + 6) % 7 + 1 := by
  rw [w64 (n := t - g) (by omega) (by omega), w64 (n := t - g + 6) (by omega) (by omega), tm (by omega), w64 (by omega) (by omega)]
theorem add_of {y m d mo da : Int} (hy : Near y) (v : Valid y m d) (h1 : -1000000 ≤ mo) (h2 : mo ≤ 1000000) (h3 : -10000000 ≤ da) (h4 : da ≤ 10000000) :
    civil_Add.f y m d mo da = if civY (addN y m d mo da) < 1 ∨ 9999 < civY (addN y m d mo da) then some (0, 0, 0, false) else some (civY (addN y m d mo da), civM (addN y m d mo da), civD (addN y m d mo da), true) := by
  obtain ⟨v1, v2, v3, v4⟩ := v
  have := len_bd y m
  unfold Near at hy
  unfold civil_Add.f
  rw [if_neg (by omega), if_pos (by omega)]
theorem addN_days {y m d da : Int} (v : Valid y m d) : addN y m d 0 da = daysOf y m d + da := by
  obtain ⟨v1, v2, v3, v4⟩ := v
  unfold addN
  have e1 : (12 * y + m - 1 + 0) / 12 = y := by omega
  have e2 : (12 * y + m - 1 + 0) % 12 + 1 = m := by omega
  rw [e1, e2, if_pos v4]
theorem do_next (k : Nat) (t y m d H I S N : Int) (hN : daysOf y m d + ((t - (daysOf y m d + 3) % 7 + 6) % 7 + 1) = N) (h0 : 0 ≤ t) (h1 : t ≤ 6) (v : Valid y m d) (near : Near y) :
    act_Do.f k 7 [0] [⟨2, [t]⟩] y m d H I S = (if civY N < 1 ∨ 9999 < civY N then some (0, [], false) else some (4, [civY N, civM N, civD N], true)) := by
  have hg : act_Do.g k 7 [0] [⟨2, [t]⟩] y m d H I S = if civY N < 1 ∨ 9999 < civY N then some none else some (some (4, [civY N, civM N, civD N])) := by
    unfold act_Do.g
    rw [if_neg (by decide), if_pos rfl]
    unfold act_maker_next.f
    have hw : act_maker_word.f 7 ([0].map (rd_T27 [⟨2, [t]⟩])) y m d H I S 0 = some t := rfl
    rw [hw]
    simp only [Option.bind_some]
    rw [if_pos ⟨h0, h1⟩, weekday_of near v]
    simp only [Option.bind_some]
    rw [far_of t _ h0 h1 (by omega) (by omega), add_of near v (by omega) (by omega) (by omega) (by omega), addN_days v, hN]
    by_cases c : civY N < 1 ∨ 9999 < civY N
    · rw [if_pos c, if_pos c]; rfl
    · rw [if_neg c, if_neg c]; rfl
  unfold act_Do.f
  rw [if_pos (by simp), hg]
  by_cases c : civY N < 1 ∨ 9999 < civY N
  · rw [if_pos c, if_pos c]; rfl
  · rw [if_neg c, if_neg c]
    have hr := right_date k (civY N) (civM N) (civD N) (by omega) (by omega) (days_civ N).1
    simp only [Option.bind_some, Option.isSome_some, dif_pos, Option.get_some, hr, if_true]
theorem ActNext : interlocutorlaw8_ActNext.Pure := by
  intro a0 a1 w0 w1
  obtain ⟨h, h2⟩ := wf_bd w0
  obtain ⟨g, g2⟩ := wf_bd w1
  obtain ⟨y, m, d, H, I, S, hr, v, near, y1, y2⟩ := ref_of a1 g g2
  refine ⟨1, ?_⟩
  unfold interlocutorlaw8_ActNext.f
  simp only [interlocutorlaw8_known.f, hr, Option.bind_some, if_true, within8_of a0 7 h h2 (by omega) (by omega)]
  have t0 : 0 ≤ a0 % 7 := by omega
  have t1 : a0 % 7 ≤ 6 := by omega
  generalize a0 % 7 = t at *
  rw [do_next 1 t y m d H I S _ rfl t0 t1 v near]
  have hN : 1 ≤ (t - (daysOf y m d + 3) % 7 + 6) % 7 + 1 ∧ (t - (daysOf y m d + 3) % 7 + 6) % 7 + 1 ≤ 7 ∧ (daysOf y m d + ((t - (daysOf y m d + 3) % 7 + 6) % 7 + 1) + 3) % 7 = t := by omega
  generalize (t - (daysOf y m d + 3) % 7 + 6) % 7 + 1 = f at *
  obtain ⟨f1, f7, ft⟩ := hN
  have hk := days_near near v
  obtain ⟨v', dc⟩ := days_civ (daysOf y m d + f)
  show ((if civY (daysOf y m d + f) < 1 ∨ 9999 < civY (daysOf y m d + f) then some (0, [], false) else some (4, [civY (daysOf y m d + f), civM (daysOf y m d + f), civD (daysOf y m d + f)], true)) : Option (Int × List Int × Bool)).bind _ = _
  by_cases c : civY (daysOf y m d + f) < 1 ∨ 9999 < civY (daysOf y m d + f)
  · rw [if_pos c]
    simp only [Option.bind_some, Bool.false_eq_true, if_false]
    have vb : Valid 9999 12 25 := ⟨by omega, by omega, by omega, by decide⟩
    have ve : Valid 9999 12 31 := ⟨by omega, by omega, by omega, by decide⟩
    have va : Valid 1 1 1 := ⟨by omega, by omega, by omega, by decide⟩
    have hb := days_add 9999 12 25 6
    have hlate : ¬ (y < 9999 ∨ y = 9999 ∧ (m < 12 ∨ m = 12 ∧ d < 25)) := by
      intro hl
      have l1 := days_lt v vb hl
      rcases c with c | c
      · have l2 := days_lt v' va (.inl c)
        have l3 : daysOf 1 1 1 ≤ daysOf y m d := by
          by_cases e : y = 1 ∧ m = 1 ∧ d = 1
          · obtain ⟨rfl, rfl, rfl⟩ := e; omega
          · obtain ⟨p1, p2, p3, p4⟩ := v
            have := days_lt va ⟨p1, p2, p3, p4⟩ (by omega)
            omega
        omega
      · have l2 := days_lt ve v' (.inl c)
        rw [show (25 : Int) + 6 = 31 by omega] at hb
        omega
    obtain ⟨p1, p2, p3, p4⟩ := v
    rw [if_pos (by omega), if_pos (by omega)]
    congr 1
    rw [decide_eq_true_iff]
    omega
  · rw [if_neg c]
    have near' : Near (civY (daysOf y m d + f)) := by unfold Near; omega
    simp only [Option.bind_some, if_true, interlocutorlaw8_ActNext.j0, List.length_cons, List.length_nil]
    rw [if_neg (by decide), if_pos (by decide), if_pos (by decide), if_pos (by decide)]
    show (interlocutorref1_Days.f (civY (daysOf y m d + f)) (civM (daysOf y m d + f)) (civD (daysOf y m d + f))).bind _ = _
    rw [rdays_of near' v', rdays_of near v]
    simp only [Option.bind_some]
    rw [dc, w64 (by omega) (by omega), if_pos (by omega), if_pos (by omega)]
    show (interlocutorref1_Weekday.f (civY (daysOf y m d + f)) (civM (daysOf y m d + f)) (civD (daysOf y m d + f))).bind _ = _
    rw [rweekday_of near' v', dc, ft]
    simp

end Go.Proofs.Ytldfljlklfhjkaa.Pure
