/- So many days, weeks, months, years from the reference, ahead and back: the plain statement behind the row. Conditions: none. -/
import Derived.Test.YtldfljlklfhjkaaPMvx14
import Derived.Test.YtldfljlklfhjkaaCalMv
namespace Go.Proofs.Ytldfljlklfhjkaa.Pure
open Go.RowKit Go.Proofs.Ytldfljlklfhjkaa.PMv Go.Proofs.YtldfljlklfhjkaaW.PrintWords Go.Proofs.YtldfljlklfhjkaaW.PrintLast Go.Proofs.YtldfljlklfhjkaaW.PrintMore

theorem within8_of (a n : Int) (ha : -9223372036854775808 ≤ a) (ha2 : a ≤ 9223372036854775807) (h0 : 1 ≤ n) (h1 : n ≤ 4611686018427387904) : interlocutorlaw8_within.f a n = some (a % n) := within_of a n ha ha2 h0 h1
theorem ref_of (a : Int) (h : -9223372036854775808 ≤ a) (h2 : a ≤ 9223372036854775807) : ∃ y m d H I S, interlocutorlaw8_Ref.f a = some (y, m, d, H, I, S) ∧ Valid y m d ∧ Near y ∧ 1 ≤ y ∧ y ≤ 9999 := by
  obtain ⟨y, m, d, hd, v, near, _, hy⟩ := day_of a false h h2
  unfold interlocutorlaw8_Ref.f
  have e7 := tdiv_bd a 7 h h2 (by omega)
  have e11 := tdiv_bd a 11 h h2 (by omega)
  have e13 := tdiv_bd a 13 h h2 (by omega)
  rw [hd, e7.2.2, e11.2.2, e13.2.2, within8_of _ 24 e7.1 e7.2.1 (by omega) (by omega), within8_of _ 60 e11.1 e11.2.1 (by omega) (by omega), within8_of _ 60 e13.1 e13.2.1 (by omega) (by omega)]
  exact ⟨y, m, d, _, _, _, rfl, v, near, (hy rfl).1, (hy rfl).2⟩
theorem right_date (k : Nat) (y m d : Int) (h1 : 1 ≤ y) (h2 : y ≤ 9999) (v : Valid y m d) : act_Right.f k 4 [y, m, d] = some true := by
  have hf : act_fields.f 4 = some 3 := by kernel_rfl
  obtain ⟨v1, v2, v3, v4⟩ := v
  have hr : rightB y m d 0 0 0 = true := by
    unfold rightB
    simp [h1, h2, v1, v2, v3, v4]
  have hd : act_day.f [y, m, d] = some (rightB y m d 0 0 0) := by
    unfold act_day.f civil_Right.f
    rfl
  unfold act_Right.f
  rw [hf]
  simp only [Option.bind_some]
  rw [if_pos (show ((([y, m, d] : List Int).length : Nat) : Int) = 3 from rfl), if_pos trivial, hd, hr]
  rfl
theorem add_of {y m d mo da : Int} (hy : Near y) (v : Valid y m d) (h1 : -1000000 ≤ mo) (h2 : mo ≤ 1000000) (h3 : -10000000 ≤ da) (h4 : da ≤ 10000000) :
    civil_Add.f y m d mo da = if civY (addN y m d mo da) < 1 ∨ 9999 < civY (addN y m d mo da) then some (0, 0, 0, false) else some (civY (addN y m d mo da), civM (addN y m d mo da), civD (addN y m d mo da), true) := by
  obtain ⟨v1, v2, v3, v4⟩ := v
  have := len_bd y m
  unfold Near at hy
  unfold civil_Add.f
  rw [if_neg (by omega), if_pos (by omega)]
theorem addN_days {y m d da : Int} (v : Valid y m d) : addN y m d 0 da = daysOf y m d + da := by
  obtain ⟨v1, v2, v3, v4⟩ := v
  unfold addN
  have e1 : (12 * y + m - 1 + 0) / 12 = y := by omega
  have e2 : (12 * y + m - 1 + 0) % 12 + 1 = m := by omega
  rw [e1, e2, if_pos v4]
theorem rciv_of {n : Int} (h : -1000000000000 ≤ n) (h2 : n ≤ 1000000000000) : interlocutorref1_Civil.f n = some (civY n, civM n, civD n) := by
  have q0 : -10000000 ≤ (n + 719468) / 146097 := by omega
  have q1 : (n + 719468) / 146097 ≤ 10000000 := by omega
  have r0 : 0 ≤ (n + 719468) % 146097 := by omega
  have r1 : (n + 719468) % 146097 < 146097 := by omega
  have e1 : n + 719468 - 146097 * ((n + 719468) / 146097) = (n + 719468) % 146097 := by omega
  unfold interlocutorref1_Civil.f
  rw [w64 (n := n + 719468) (by omega) (by omega), rfloor_of _ _ (by omega) (by omega) (by omega) (by omega)]
  simp only [Option.bind_some]
  rw [w64 (n := 146097 * ((n + 719468) / 146097)) (by omega) (by omega), e1, w64 (n := (n + 719468) % 146097) (by omega) (by omega)]
  unfold civY civM civD
  generalize (n + 719468) / 146097 = q at *
  generalize (n + 719468) % 146097 = r at *
  obtain ⟨d0, d1, y0, y1⟩ := doy_bd r r0 r1
  have hY : wrap64 (Int.tdiv (wrap64 (wrap64 (wrap64 (r - wrap64 (Int.tdiv r 1460)) + wrap64 (Int.tdiv r 36524)) - wrap64 (Int.tdiv r 146096))) 365) = yoeOf r := by
    simp (disch := omega) only [w64, td]; rfl
  rw [hY]
  have hD : wrap64 (r - wrap64 (wrap64 (wrap64 (365 * yoeOf r) + wrap64 (Int.tdiv (yoeOf r) 4)) - wrap64 (Int.tdiv (yoeOf r) 100))) = doyOf r := by
    simp (disch := omega) only [w64, td]; rfl
  rw [hD]
  have hM : wrap64 (Int.tdiv (wrap64 (wrap64 (5 * doyOf r) + 2)) 153) = mpOf r := by
    simp (disch := omega) only [w64, td]; rfl
  rw [hM]
  have m0 : 0 ≤ mpOf r := by unfold mpOf; omega
  have m1 : mpOf r ≤ 11 := by unfold mpOf; omega
  unfold onY onM onD
  clear hY hD hM
  generalize mpOf r = mp at *
  generalize doyOf r = s at *
  generalize yoeOf r = k at *
  simp (disch := omega) only [w64, td]
  by_cases c : mp + 3 > 12
  · rw [if_pos c, if_pos (by omega), if_pos c, if_pos c]
    simp only [Option.some.injEq, Prod.mk.injEq, and_true]; omega
  · rw [if_neg c, if_neg (by omega), if_neg c, if_neg c]
    simp only [Option.some.injEq, Prod.mk.injEq, and_true]; omega

theorem rdays_far {y m d : Int} (hn1 : -1000000 ≤ y) (hn2 : y ≤ 1000000) (v : Valid y m d) : interlocutorref1_Days.f y m d = some (daysOf y m d) := by
  obtain ⟨h1, h2, h3, h4⟩ := v; have := len_bd y m
  unfold interlocutorref1_Days.f daysOf
  by_cases c : m ≤ 2
  · rw [if_pos c, if_pos c, w64 (n := y - 1) (by omega) (by omega), rfloor_of _ _ (by omega) (by omega) (by omega) (by omega)]
    simp only [Option.bind_some]
    have e1 : (y - 1) - 400 * ((y - 1) / 400) = (y - 1) % 400 := by omega
    have e2 : (m + 9) % 12 = m + 9 := by omega
    simp (disch := omega) only [w64, td, tm, e1, e2]
    congr 1
    omega
  · rw [if_neg c, if_neg c, rfloor_of _ _ (by omega) (by omega) (by omega) (by omega)]
    simp only [Option.bind_some]
    have e1 : y - 400 * (y / 400) = y % 400 := by omega
    have e2 : (m + 9) % 12 = m - 3 := by omega
    simp (disch := omega) only [w64, td, tm, e1, e2]
    congr 1
    omega
theorem radd_of {y m d mo da : Int} (k : Nat) (hy : Near y) (v : Valid y m d) : interlocutorref1_Add.f (k + 1) y m d mo da = civil_Add.f y m d mo da := by
  unfold interlocutorref1_Add.f
  simp only [interlocutorref1_Add.j0]
  by_cases h1 : mo < -1000000
  · rw [if_pos h1, if_pos trivial]; unfold civil_Add.f; rw [if_pos (.inl h1)]
  rw [if_neg h1]
  by_cases h2 : mo > 1000000
  · rw [if_pos h2, if_pos trivial]; unfold civil_Add.f; rw [if_pos (.inr (.inl h2))]
  rw [if_neg h2]
  by_cases h3 : da < -10000000
  · rw [if_pos h3, if_pos trivial]; unfold civil_Add.f; rw [if_pos (.inr (.inr (.inl h3)))]
  rw [if_neg h3]
  by_cases h4 : da > 10000000
  · rw [if_pos (decide_eq_true h4)]; unfold civil_Add.f; rw [if_pos (.inr (.inr (.inr h4)))]
  rw [if_neg (by simpa using h4), add_of hy v (by omega) (by omega) (by omega) (by omega)]
  obtain ⟨v1, v2, v3, v4⟩ := v
  unfold Near at hy
  have hl := len_bd y m
  simp (disch := omega) only [w64]
  rw [rfloor_of _ _ (by omega) (by omega) (by omega) (by omega)]
  simp only [Option.bind_some]
  have e1 : 12 * y + m - 1 + mo - 12 * ((12 * y + m - 1 + mo) / 12) = (12 * y + m - 1 + mo) % 12 := by omega
  have q0 : -200000 ≤ (12 * y + m - 1 + mo) / 12 := by omega
  have q1 : (12 * y + m - 1 + mo) / 12 ≤ 200000 := by omega
  have r0 : 0 ≤ (12 * y + m - 1 + mo) % 12 := by omega
  have r1 : (12 * y + m - 1 + mo) % 12 < 12 := by omega
  rw [w64 (n := 12 * ((12 * y + m - 1 + mo) / 12)) (by omega) (by omega), e1, w64 (n := (12 * y + m - 1 + mo) % 12) (by omega) (by omega), w64 (n := (12 * y + m - 1 + mo) % 12 + 1) (by omega) (by omega)]
  unfold addN
  generalize (12 * y + m - 1 + mo) / 12 = q at *
  generalize (12 * y + m - 1 + mo) % 12 = r at *
  rw [rlength_of]
  simp only [Option.bind_some]
  have hL := len_bd q (r + 1)
  have em : mn d (lenOf q (r + 1)) = if d ≤ lenOf q (r + 1) then d else lenOf q (r + 1) := by unfold mn; split <;> split <;> omega
  rw [em]
  have v' : Valid q (r + 1) (if d ≤ lenOf q (r + 1) then d else lenOf q (r + 1)) := by
    refine ⟨by omega, by omega, ?_, ?_⟩ <;> split <;> omega
  generalize (if d ≤ lenOf q (r + 1) then d else lenOf q (r + 1)) = dd at *
  have hk := days_bd q (r + 1) dd (by omega) (by omega) (by omega) (by omega) (by obtain ⟨_, _, a, b⟩ := v'; omega) (by obtain ⟨_, _, a, b⟩ := v'; omega)
  have hrd : interlocutorref1_Days.f q (r + 1) dd = some (daysOf q (r + 1) dd) := by
    exact rdays_far (by omega) (by omega) v'
  rw [hrd]
  simp only [Option.bind_some]
  rw [w64 (by omega) (by omega), rciv_of (by omega) (by omega)]
  simp only [Option.bind_some]
  generalize civY (daysOf q (r + 1) dd + da) = Y at *
  by_cases c1 : Y < 1
  · rw [if_pos c1, if_pos (.inl c1)]
  · by_cases c2 : Y > 9999
    · rw [if_neg c1, if_pos c2, if_pos (.inr c2)]
    · rw [if_neg c1, if_neg c2, if_neg (by omega)]
/-- What Do tells where a day may be none. -/
def told (t : Int × Int × Int × Bool) : Int × List Int × Bool := if t.2.2.2 = true then (4, [t.1, t.2.1, t.2.2.1], true) else (0, [], false)
theorem add_is {y m d mo da : Int} (hy : Near y) (v : Valid y m d) (h1 : -1000000 ≤ mo) (h2 : mo ≤ 1000000) (h3 : -10000000 ≤ da) (h4 : da ≤ 10000000) :
    ∃ t, civil_Add.f y m d mo da = some t ∧ (t.2.2.2 = true → 1 ≤ t.1 ∧ t.1 ≤ 9999 ∧ Valid t.1 t.2.1 t.2.2.1) := by
  rw [add_of hy v h1 h2 h3 h4]
  by_cases c : civY (addN y m d mo da) < 1 ∨ 9999 < civY (addN y m d mo da)
  · rw [if_pos c]; exact ⟨_, rfl, fun h => by simp at h⟩
  · rw [if_neg c]; exact ⟨_, rfl, fun _ => ⟨by show 1 ≤ civY (addN y m d mo da); omega, by show civY (addN y m d mo da) ≤ 9999; omega, (days_civ _).1⟩⟩
theorem do_rel (k : Nat) (n u s y m d H I S : Int) (t : Int × Int × Int × Bool) (hn : -1000000 ≤ n ∧ n ≤ 1000000) (hu : u = 1 ∨ u = 2 ∨ u = 3 ∨ u = 4) (hs : s = -1 ∨ s = 1) (ht : civil_Add.f y m d (relMo u (wrap64 (n * s))) (relDa u (wrap64 (n * s))) = some t) (hv : t.2.2.2 = true → 1 ≤ t.1 ∧ t.1 ≤ 9999 ∧ Valid t.1 t.2.1 t.2.2.1) :
    act_Do.f (k + 1) 6 [0, 1, 2] [⟨1, [n, 3]⟩, ⟨2, [u]⟩, ⟨2, [s]⟩] y m d H I S = some (told t) := by
  have hg : act_Do.g (k + 1) 6 [0, 1, 2] [⟨1, [n, 3]⟩, ⟨2, [u]⟩, ⟨2, [s]⟩] y m d H I S = if t.2.2.2 = true then some (some (4, [t.1, t.2.1, t.2.2.1])) else some none := by
    unfold act_Do.g
    rw [if_neg (by decide), if_pos rfl]
    unfold act_maker_relative.f
    have h1 : act_maker_count.f (k + 1) 6 ([0, 1, 2].map (rd_T27 [⟨1, [n, 3]⟩, ⟨2, [u]⟩, ⟨2, [s]⟩])) y m d H I S 0 = some n := rfl
    have h2 : act_maker_word.f 6 ([0, 1, 2].map (rd_T27 [⟨1, [n, 3]⟩, ⟨2, [u]⟩, ⟨2, [s]⟩])) y m d H I S 1 = some u := rfl
    have h3 : act_maker_word.f 6 ([0, 1, 2].map (rd_T27 [⟨1, [n, 3]⟩, ⟨2, [u]⟩, ⟨2, [s]⟩])) y m d H I S 2 = some s := rfl
    rw [h1, h2, h3]
    simp only [Option.bind_some]
    rw [if_pos ⟨hn.1, hn.2, hu, hs⟩, ht]
    rfl
  unfold act_Do.f told
  rw [if_pos (by simp), hg]
  by_cases c : t.2.2.2 = true
  · obtain ⟨v1, v2, v3⟩ := hv c
    have hr := right_date (k + 1) t.1 t.2.1 t.2.2.1 v1 v2 v3
    rw [if_pos c, if_pos c]
    simp only [Option.bind_some, Option.isSome_some, dif_pos, Option.get_some, hr, if_true]
  · rw [if_neg c, if_neg c]; rfl
theorem j1_is (K : Nat) (mo da y m d H I S : Int) (hy : Near y) (v : Valid y m d) (t : Int × Int × Int × Bool) (ht : civil_Add.f y m d mo da = some t) :
    interlocutorlaw8_ActMoves.j1 (K + 2) (told t).2.2 mo da y m d H I S (told t).1 (told t).2.1 = some true := by
  show interlocutorlaw8_ActMoves.j1 (K + 1 + 1) (told t).2.2 mo da y m d H I S (told t).1 (told t).2.1 = some true
  simp only [interlocutorlaw8_ActMoves.j1]
  rw [radd_of K hy v, ht]
  simp only [Option.bind_some]
  unfold told
  by_cases c : t.2.2.2 = true
  · simp [c, rd]
  · simp [c]
theorem sides (n s u : Int) (hn : 0 ≤ n ∧ n < 400) (hs : s = -1 ∨ s = 1) (hu : u = 1 ∨ u = 2 ∨ u = 3 ∨ u = 4) : -1000000 ≤ relMo u (wrap64 (n * s)) ∧ relMo u (wrap64 (n * s)) ≤ 1000000 ∧ -10000000 ≤ relDa u (wrap64 (n * s)) ∧ relDa u (wrap64 (n * s)) ≤ 10000000 := by
  have e : wrap64 (n * s) = n * s := by rcases hs with rfl | rfl <;> (unfold wrap64; omega)
  rw [e]
  have e7 : wrap64 (7 * (n * s)) = 7 * (n * s) := by rcases hs with rfl | rfl <;> (unfold wrap64; omega)
  have e12 : wrap64 (12 * (n * s)) = 12 * (n * s) := by rcases hs with rfl | rfl <;> (unfold wrap64; omega)
  have b : -400 < n * s ∧ n * s < 400 := by rcases hs with rfl | rfl <;> omega
  unfold relMo relDa
  rw [e7, e12]
  generalize n * s = q at *
  rcases hu with rfl | rfl | rfl | rfl
  all_goals simp
  all_goals omega
theorem j0_is (n u s y m d H I S : Int) (hn : 0 ≤ n ∧ n < 400) (hu : u = 1 ∨ u = 2 ∨ u = 3 ∨ u = 4) (hs : s = -1 ∨ s = 1) (hy : Near y) (v : Valid y m d) : interlocutorlaw8_ActMoves.j0 6 n u s y m d H I S = some true := by
  obtain ⟨b1, b2, b3, b4⟩ := sides n s u hn hs hu
  obtain ⟨t, ht, hv⟩ := add_is hy v b1 b2 b3 b4
  have hj := j1_is 3 _ _ y m d H I S hy v t ht
  show interlocutorlaw8_ActMoves.j0 (5 + 1) n u s y m d H I S = some true
  simp only [interlocutorlaw8_ActMoves.j0]
  rw [do_rel 4 n u s y m d H I S t (by omega) hu hs ht hv]
  simp only [Option.bind_some]
  have e : wrap64 (n * s) = n * s := by rcases hs with rfl | rfl <;> (unfold wrap64; omega)
  have e7 : wrap64 (wrap64 (7 * n) * s) = wrap64 (7 * wrap64 (n * s)) := by rcases hs with rfl | rfl <;> (unfold wrap64; omega)
  have e12 : wrap64 (wrap64 (12 * n) * s) = wrap64 (12 * wrap64 (n * s)) := by rcases hs with rfl | rfl <;> (unfold wrap64; omega)
  rw [e7, e12]
  rcases hu with rfl | rfl | rfl | rfl
  · rw [if_pos rfl]; exact hj
  · rw [if_neg (by decide), if_pos rfl]; exact hj
  · rw [if_neg (by decide), if_neg (by decide), if_pos rfl]; exact hj
  · rw [if_neg (by decide), if_neg (by decide), if_neg (by decide), if_pos rfl]; exact hj
theorem ActMoves : interlocutorlaw8_ActMoves.Pure := by
  intro a0 a1 a2 a3 w0 w1 w3
  obtain ⟨h, h2⟩ := wf_bd w0
  obtain ⟨g, g2⟩ := wf_bd w1
  obtain ⟨f, f2⟩ := wf_bd w3
  obtain ⟨y, m, d, H, I, S, hr, v, near, y1, y2⟩ := ref_of a3 f f2
  refine ⟨6, ?_⟩
  unfold interlocutorlaw8_ActMoves.f
  simp only [interlocutorlaw8_known.f, hr, Option.bind_some, if_true, within8_of a0 400 h h2 (by omega) (by omega), within8_of a1 4 g g2 (by omega) (by omega)]
  have e : wrap64 (1 + a1 % 4) = 1 + a1 % 4 := by unfold wrap64; omega
  rw [e]
  cases a2
  · rw [if_neg (by decide)]
    exact j0_is _ _ 1 y m d H I S (by omega) (by omega) (.inr rfl) near v
  · rw [if_pos rfl]
    exact j0_is _ _ (-1) y m d H I S (by omega) (by omega) (.inl rfl) near v

end Go.Proofs.Ytldfljlklfhjkaa.Pure
