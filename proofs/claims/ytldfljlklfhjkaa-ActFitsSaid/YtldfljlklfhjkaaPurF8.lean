/- Children that fit: whatever Do makes of them is the document's: the plain statement behind the row. Conditions: none. -/
import Derived.Test.YtldfljlklfhjkaaPurF7
namespace Go.Proofs.Ytldfljlklfhjkaa.PE
open Go.RowKit Go.Proofs.YtldfljlklfhjkaaW.PrintWords Go.Proofs.YtldfljlklfhjkaaW.PrintLast Go.Proofs.YtldfljlklfhjkaaW.PrintMore
set_option linter.unusedVariables false
set_option linter.unusedSimpArgs false
namespace Ev
theorem right_kind {v : S27} (h : act_Right.F v = some true) : 4 ≤ v.f0 ∧ v.f0 ≤ 10 := by
  have h1 := right_len h
  unfold act_fields.F act_fields.t at h1
  by_cases c0 : v.f0 < 4
  · rw [if_pos c0] at h1
    have := Option.some.inj h1; omega
  rw [if_neg c0] at h1
  by_cases c1 : v.f0 > 10
  · rw [if_pos c1] at h1
    have := Option.some.inj h1; omega
  exact ⟨by omega, by omega⟩
theorem kid_value (k a b : Int) : ∃ c, law8_Value.F (k, a, b) = some c ∧ Kid c := by
  obtain ⟨v, hv, hr, l1, l2⟩ := value_ok k a b
  obtain ⟨k0, k1⟩ := right_kind hr
  exact ⟨v, hv, ⟨fun h => by omega, fun h => by omega, fun _ _ => hr, l2⟩⟩
theorem kid_word (n : Int) : ∃ c, law8_word.F n = some c ∧ Kid c := by
  obtain ⟨t, ht, t0, t1⟩ := within_is n 12 (by omega) (by omega)
  refine ⟨⟨2, [rd [0, 1, 2, 3, 4, 5, 6, -1, 12, 60, 3600, 9782] t]⟩, ?_, ⟨fun h => by simp at h, fun _ => ⟨_, rfl, ?_⟩, fun h => by simp at h, by simp⟩⟩
  · unfold law8_word.F law8_word.t
    rw [ht, Option.bind_some, if_pos t0, if_pos t1]
  · rcases (show t = 0 ∨ t = 1 ∨ t = 2 ∨ t = 3 ∨ t = 4 ∨ t = 5 ∨ t = 6 ∨ t = 7 ∨ t = 8 ∨ t = 9 ∨ t = 10 ∨ t = 11 by omega) with rfl | rfl | rfl | rfl | rfl | rfl | rfl | rfl | rfl | rfl | rfl | rfl <;> decide
theorem kid_num (v d : Int) (v0 : 0 ≤ v) (v1 : v ≤ 100000000) (d0 : 1 ≤ d) (d1 : d ≤ 9) (h : d ≤ 2 → v ≤ 99) : Kid ⟨1, [v, d]⟩ :=
  ⟨fun _ => ⟨v, d, rfl, v0, v1, d0, d1, h⟩, fun h => by simp at h, fun h => by simp at h, by simp⟩
theorem kid_number (n : Int) : ∃ c, law8_number.F n = some c ∧ Kid c := by
  obtain ⟨t, ht, t0, t1⟩ := within_is (wrap64 (Int.tdiv n 10000)) 7 (by omega) (by omega)
  have hb : 10 ≤ rd [10, 13, 32, 60, 100, 1000, 10000] t ∧ rd [10, 13, 32, 60, 100, 1000, 10000] t ≤ 10000 := by
    rcases (show t = 0 ∨ t = 1 ∨ t = 2 ∨ t = 3 ∨ t = 4 ∨ t = 5 ∨ t = 6 by omega) with rfl | rfl | rfl | rfl | rfl | rfl | rfl <;> decide
  obtain ⟨x, hx, x0, x1⟩ := within_is n (rd [10, 13, 32, 60, 100, 1000, 10000] t) (by omega) (by omega)
  have e1 : wrap64 (Int.tdiv x 10) = x / 10 := by rw [Int.tdiv_eq_ediv_of_nonneg (by omega), wrap_id _ (by omega) (by omega)]
  have e2 : wrap64 (Int.tdiv (x / 10) 10) = x / 10 / 10 := by rw [Int.tdiv_eq_ediv_of_nonneg (by omega), wrap_id _ (by omega) (by omega)]
  have e3 : wrap64 (Int.tdiv (x / 10 / 10) 10) = x / 10 / 10 / 10 := by rw [Int.tdiv_eq_ediv_of_nonneg (by omega), wrap_id _ (by omega) (by omega)]
  unfold law8_number.F law8_number.t
  rw [ht, Option.bind_some, if_pos t0, if_pos t1, hx, Option.bind_some]
  simp only [e1, e2, e3]
  by_cases c1 : x ≥ 10
  rotate_left
  · rw [if_neg c1]; exact ⟨_, rfl, kid_num x 1 x0 (by omega) (by omega) (by omega) (by omega)⟩
  rw [if_pos c1]
  by_cases c2 : x / 10 ≥ 10
  rotate_left
  · rw [if_neg c2]; exact ⟨_, rfl, kid_num x 2 x0 (by omega) (by omega) (by omega) (by omega)⟩
  rw [if_pos c2]
  by_cases c3 : x / 10 / 10 ≥ 10
  rotate_left
  · rw [if_neg c3]; exact ⟨_, rfl, kid_num x 3 x0 (by omega) (by omega) (by omega) (by omega)⟩
  rw [if_pos c3, if_neg (show ¬ x / 10 / 10 / 10 ≥ 10 by omega)]
  exact ⟨_, rfl, kid_num x 4 x0 (by omega) (by omega) (by omega) (by omega)⟩
theorem ref_ok (n : Int) : ∃ t : Mom, law8_Ref.F n = some t ∧ 1 ≤ t.1 ∧ t.1 ≤ 9999 ∧ Valid t.1 t.2.1 t.2.2.1 := by
  obtain ⟨y, m, d, h, hr⟩ := day_ok n
  obtain ⟨p, hp, _, _⟩ := within_is (wrap64 (Int.tdiv n 7)) 24 (by omega) (by omega)
  obtain ⟨q, hq, _, _⟩ := within_is (wrap64 (Int.tdiv n 11)) 60 (by omega) (by omega)
  obtain ⟨r, hr2, _, _⟩ := within_is (wrap64 (Int.tdiv n 13)) 60 (by omega) (by omega)
  obtain ⟨y0, y1, v⟩ := right_valid hr
  refine ⟨(y, m, d, p, q, r), ?_, y0, y1, v⟩
  unfold law8_Ref.F law8_Ref.t
  rw [h, Option.bind_some, hp, Option.bind_some, hq, Option.bind_some, hr2, Option.bind_some]
theorem tail_fits {X : S27 × List S27 × Mom} (h : ∃ v b, act_Do.F X = some (v, b) ∧ ref8_Do.F X = some (v, b) ∧ ref10_Cmp.F (v, v) = some 0 ∧ (b = true → act_Right.F v = some true)) :
    ((act_Do.F X).bind fun t20 => bm t20.2 ((ref8_Do.F X).bind fun t22 => bm t22.2 ((ref10_Cmp.F ({ f0 := t20.1.f0, f1 := t20.1.f1 }, { f0 := t22.1.f0, f1 := t22.1.f1 })).bind fun t24 => if t24 = 0 then some true else some false) (some false)) ((ref8_Do.F X).bind fun t22 => bm t22.2 (some false) ((ref10_Cmp.F ({ f0 := t20.1.f0, f1 := t20.1.f1 }, { f0 := t22.1.f0, f1 := t22.1.f1 })).bind fun t24 => if t24 = 0 then some true else some false))) = some true := by
  obtain ⟨v, b, h1, h2, h3, _⟩ := h
  rw [h1, h2]
  have h3 : ref10_Cmp.F ({ f0 := v.f0, f1 := v.f1 }, { f0 := v.f0, f1 := v.f1 }) = some 0 := h3
  simp only [Option.bind_some, h3]
  cases b <;> rfl
theorem fits_all (k : Int) (hk : 0 ≤ k) (hk2 : k < 16) (c0 c1 c2 c3 c4 c5 c6 c7 c8 c9 c10 c11 : S27) (m : Mom) (h0 : Kid c0) (h1 : Kid c1) (h2 : Kid c2) (h3 : Kid c3) (h4 : Kid c4) (h5 : Kid c5) (h6 : Kid c6) (h7 : Kid c7) (h8 : Kid c8) (h9 : Kid c9) (h10 : Kid c10) (h11 : Kid c11) (y0 : 1 ≤ m.1) (y1 : m.1 ≤ 9999) (vd : Valid m.1 m.2.1 m.2.2.1) : ∃ v b, act_Do.F (⟨k, rdR [[9], [0, 1, 2], [4, 2], [0, 1, 2], [0, 1, 5], [6, 8], [0, 4, 5], [3], [0], [0, 1], [0, 1], [9], [4, 9], [0, 4], [10, 11], [6, 7]] k⟩, [c0, c1, c2, c3, c4, c5, c6, c7, c8, c9, c10, c11], m) = some (v, b) ∧ ref8_Do.F (⟨k, rdR [[9], [0, 1, 2], [4, 2], [0, 1, 2], [0, 1, 5], [6, 8], [0, 4, 5], [3], [0], [0, 1], [0, 1], [9], [4, 9], [0, 4], [10, 11], [6, 7]] k⟩, [c0, c1, c2, c3, c4, c5, c6, c7, c8, c9, c10, c11], m) = some (v, b) ∧ ref10_Cmp.F (v, v) = some 0 ∧ (b = true → act_Right.F v = some true ∨ k = 0) := by
  rcases (show k = 0 ∨ k = 1 ∨ k = 2 ∨ k = 3 ∨ k = 4 ∨ k = 5 ∨ k = 6 ∨ k = 7 ∨ k = 8 ∨ k = 9 ∨ k = 10 ∨ k = 11 ∨ k = 12 ∨ k = 13 ∨ k = 14 ∨ k = 15 by omega) with rfl | rfl | rfl | rfl | rfl | rfl | rfl | rfl | rfl | rfl | rfl | rfl | rfl | rfl | rfl | rfl
  · obtain ⟨e1, e2⟩ := pick_one 9 [c0, c1, c2, c3, c4, c5, c6, c7, c8, c9, c10, c11] m (by omega) (by simp) h9.len
    exact ⟨c9, true, e1, e2, cmp_self c9 h9.len, fun _ => .inr rfl⟩
  · have H : ∀ p ∈ ([0, 1, 2] : List Int), 0 ≤ p ∧ p < (([c0, c1, c2, c3, c4, c5, c6, c7, c8, c9, c10, c11] : List S27).length : Int) := by
      intro p hp
      simp at hp
      simp
      omega
    obtain ⟨v, b, e1, e2, e3, e4⟩ := one_cmp (do_both 1 [0, 1, 2] [c0, c1, c2, c3, c4, c5, c6, c7, c8, c9, c10, c11] m (by decide) (by simp) H (ref_do3 1 0 1 2 [c0, c1, c2, c3, c4, c5, c6, c7, c8, c9, c10, c11] m (by decide) H) (made1 h0 h1 h2 y0 y1))
    exact ⟨v, b, e1, e2, e3, fun h => .inl (e4 h)⟩
  · have H : ∀ p ∈ ([4, 2] : List Int), 0 ≤ p ∧ p < (([c0, c1, c2, c3, c4, c5, c6, c7, c8, c9, c10, c11] : List S27).length : Int) := by
      intro p hp
      simp at hp
      simp
      omega
    obtain ⟨v, b, e1, e2, e3, e4⟩ := one_cmp (do_both 2 [4, 2] [c0, c1, c2, c3, c4, c5, c6, c7, c8, c9, c10, c11] m (by decide) (by simp) H (ref_do2 2 4 2 [c0, c1, c2, c3, c4, c5, c6, c7, c8, c9, c10, c11] m (by decide) H) (made2 h4 h2 ))
    exact ⟨v, b, e1, e2, e3, fun h => .inl (e4 h)⟩
  · have H : ∀ p ∈ ([0, 1, 2] : List Int), 0 ≤ p ∧ p < (([c0, c1, c2, c3, c4, c5, c6, c7, c8, c9, c10, c11] : List S27).length : Int) := by
      intro p hp
      simp at hp
      simp
      omega
    obtain ⟨v, b, e1, e2, e3, e4⟩ := one_cmp (do_both 3 [0, 1, 2] [c0, c1, c2, c3, c4, c5, c6, c7, c8, c9, c10, c11] m (by decide) (by simp) H (ref_do3 3 0 1 2 [c0, c1, c2, c3, c4, c5, c6, c7, c8, c9, c10, c11] m (by decide) H) (made3b h0 h1 h2 ))
    exact ⟨v, b, e1, e2, e3, fun h => .inl (e4 h)⟩
  · have H : ∀ p ∈ ([0, 1, 5] : List Int), 0 ≤ p ∧ p < (([c0, c1, c2, c3, c4, c5, c6, c7, c8, c9, c10, c11] : List S27).length : Int) := by
      intro p hp
      simp at hp
      simp
      omega
    obtain ⟨v, b, e1, e2, e3, e4⟩ := one_cmp (do_both 4 [0, 1, 5] [c0, c1, c2, c3, c4, c5, c6, c7, c8, c9, c10, c11] m (by decide) (by simp) H (ref_do3 4 0 1 5 [c0, c1, c2, c3, c4, c5, c6, c7, c8, c9, c10, c11] m (by decide) H) (made4b h0 h1 h5 ))
    exact ⟨v, b, e1, e2, e3, fun h => .inl (e4 h)⟩
  · have H : ∀ p ∈ ([6, 8] : List Int), 0 ≤ p ∧ p < (([c0, c1, c2, c3, c4, c5, c6, c7, c8, c9, c10, c11] : List S27).length : Int) := by
      intro p hp
      simp at hp
      simp
      omega
    obtain ⟨v, b, e1, e2, e3, e4⟩ := one_cmp (do_both 5 [6, 8] [c0, c1, c2, c3, c4, c5, c6, c7, c8, c9, c10, c11] m (by decide) (by simp) H (ref_do2 5 6 8 [c0, c1, c2, c3, c4, c5, c6, c7, c8, c9, c10, c11] m (by decide) H) (made5 h6 h8 ))
    exact ⟨v, b, e1, e2, e3, fun h => .inl (e4 h)⟩
  · have H : ∀ p ∈ ([0, 4, 5] : List Int), 0 ≤ p ∧ p < (([c0, c1, c2, c3, c4, c5, c6, c7, c8, c9, c10, c11] : List S27).length : Int) := by
      intro p hp
      simp at hp
      simp
      omega
    obtain ⟨v, b, e1, e2, e3, e4⟩ := one_cmp (do_both 6 [0, 4, 5] [c0, c1, c2, c3, c4, c5, c6, c7, c8, c9, c10, c11] m (by decide) (by simp) H (ref_do3 6 0 4 5 [c0, c1, c2, c3, c4, c5, c6, c7, c8, c9, c10, c11] m (by decide) H) (made6 h0 h4 h5 y0 y1 vd))
    exact ⟨v, b, e1, e2, e3, fun h => .inl (e4 h)⟩
  · have H : ∀ p ∈ ([3] : List Int), 0 ≤ p ∧ p < (([c0, c1, c2, c3, c4, c5, c6, c7, c8, c9, c10, c11] : List S27).length : Int) := by
      intro p hp
      simp at hp
      simp
      omega
    obtain ⟨v, b, e1, e2, e3, e4⟩ := one_cmp (do_both 7 [3] [c0, c1, c2, c3, c4, c5, c6, c7, c8, c9, c10, c11] m (by decide) (by simp) H (ref_do1 7 3 [c0, c1, c2, c3, c4, c5, c6, c7, c8, c9, c10, c11] m (by decide) H) (made7 h3 y0 y1 vd))
    exact ⟨v, b, e1, e2, e3, fun h => .inl (e4 h)⟩
  · have H : ∀ p ∈ ([0] : List Int), 0 ≤ p ∧ p < (([c0, c1, c2, c3, c4, c5, c6, c7, c8, c9, c10, c11] : List S27).length : Int) := by
      intro p hp
      simp at hp
      simp
      omega
    obtain ⟨v, b, e1, e2, e3, e4⟩ := one_cmp (do_both 8 [0] [c0, c1, c2, c3, c4, c5, c6, c7, c8, c9, c10, c11] m (by decide) (by simp) H (ref_do1 8 0 [c0, c1, c2, c3, c4, c5, c6, c7, c8, c9, c10, c11] m (by decide) H) (made8 h0 ))
    exact ⟨v, b, e1, e2, e3, fun h => .inl (e4 h)⟩
  · have H : ∀ p ∈ ([0, 1] : List Int), 0 ≤ p ∧ p < (([c0, c1, c2, c3, c4, c5, c6, c7, c8, c9, c10, c11] : List S27).length : Int) := by
      intro p hp
      simp at hp
      simp
      omega
    obtain ⟨v, b, e1, e2, e3, e4⟩ := one_cmp (do_both 9 [0, 1] [c0, c1, c2, c3, c4, c5, c6, c7, c8, c9, c10, c11] m (by decide) (by simp) H (ref_do2 9 0 1 [c0, c1, c2, c3, c4, c5, c6, c7, c8, c9, c10, c11] m (by decide) H) (made9 h0 h1 ))
    exact ⟨v, b, e1, e2, e3, fun h => .inl (e4 h)⟩
  · have H : ∀ p ∈ ([0, 1] : List Int), 0 ≤ p ∧ p < (([c0, c1, c2, c3, c4, c5, c6, c7, c8, c9, c10, c11] : List S27).length : Int) := by
      intro p hp
      simp at hp
      simp
      omega
    obtain ⟨v, b, e1, e2, e3, e4⟩ := one_cmp (do_both 10 [0, 1] [c0, c1, c2, c3, c4, c5, c6, c7, c8, c9, c10, c11] m (by decide) (by simp) H (ref_do2 10 0 1 [c0, c1, c2, c3, c4, c5, c6, c7, c8, c9, c10, c11] m (by decide) H) (made10_2 h0 h1 ))
    exact ⟨v, b, e1, e2, e3, fun h => .inl (e4 h)⟩
  · have H : ∀ p ∈ ([9] : List Int), 0 ≤ p ∧ p < (([c0, c1, c2, c3, c4, c5, c6, c7, c8, c9, c10, c11] : List S27).length : Int) := by
      intro p hp
      simp at hp
      simp
      omega
    obtain ⟨v, b, e1, e2, e3, e4⟩ := one_cmp (do_both 11 [9] [c0, c1, c2, c3, c4, c5, c6, c7, c8, c9, c10, c11] m (by decide) (by simp) H (ref_do1 11 9 [c0, c1, c2, c3, c4, c5, c6, c7, c8, c9, c10, c11] m (by decide) H) (made11 h9 ))
    exact ⟨v, b, e1, e2, e3, fun h => .inl (e4 h)⟩
  · have H : ∀ p ∈ ([4, 9] : List Int), 0 ≤ p ∧ p < (([c0, c1, c2, c3, c4, c5, c6, c7, c8, c9, c10, c11] : List S27).length : Int) := by
      intro p hp
      simp at hp
      simp
      omega
    obtain ⟨v, b, e1, e2, e3, e4⟩ := one_cmp (do_both 12 [4, 9] [c0, c1, c2, c3, c4, c5, c6, c7, c8, c9, c10, c11] m (by decide) (by simp) H (ref_do2 12 4 9 [c0, c1, c2, c3, c4, c5, c6, c7, c8, c9, c10, c11] m (by decide) H) (made12 h4 h9 ))
    exact ⟨v, b, e1, e2, e3, fun h => .inl (e4 h)⟩
  · have H : ∀ p ∈ ([0, 4] : List Int), 0 ≤ p ∧ p < (([c0, c1, c2, c3, c4, c5, c6, c7, c8, c9, c10, c11] : List S27).length : Int) := by
      intro p hp
      simp at hp
      simp
      omega
    obtain ⟨v, b, e1, e2, e3, e4⟩ := one_cmp (do_both 13 [0, 4] [c0, c1, c2, c3, c4, c5, c6, c7, c8, c9, c10, c11] m (by decide) (by simp) H (ref_do2 13 0 4 [c0, c1, c2, c3, c4, c5, c6, c7, c8, c9, c10, c11] m (by decide) H) (made13 h0 h4 ))
    exact ⟨v, b, e1, e2, e3, fun h => .inl (e4 h)⟩
  · have H : ∀ p ∈ ([10, 11] : List Int), 0 ≤ p ∧ p < (([c0, c1, c2, c3, c4, c5, c6, c7, c8, c9, c10, c11] : List S27).length : Int) := by
      intro p hp
      simp at hp
      simp
      omega
    obtain ⟨v, b, e1, e2, e3, e4⟩ := one_cmp (do_both 14 [10, 11] [c0, c1, c2, c3, c4, c5, c6, c7, c8, c9, c10, c11] m (by decide) (by simp) H (ref_do2 14 10 11 [c0, c1, c2, c3, c4, c5, c6, c7, c8, c9, c10, c11] m (by decide) H) (made14 h10 h11 ))
    exact ⟨v, b, e1, e2, e3, fun h => .inl (e4 h)⟩
  · have H : ∀ p ∈ ([6, 7] : List Int), 0 ≤ p ∧ p < (([c0, c1, c2, c3, c4, c5, c6, c7, c8, c9, c10, c11] : List S27).length : Int) := by
      intro p hp
      simp at hp
      simp
      omega
    obtain ⟨v, b, e1, e2, e3, e4⟩ := one_cmp (do_both 15 [6, 7] [c0, c1, c2, c3, c4, c5, c6, c7, c8, c9, c10, c11] m (by decide) (by simp) H (ref_do2 15 6 7 [c0, c1, c2, c3, c4, c5, c6, c7, c8, c9, c10, c11] m (by decide) H) (made15 h6 h7 ))
    exact ⟨v, b, e1, e2, e3, fun h => .inl (e4 h)⟩
theorem ActFits_true (op a b c n : Int) : ActFits.F (op, a, b, c, n) = some true := by
  obtain ⟨c0, e0, h0⟩ := kid_number a
  obtain ⟨c1, e1, h1⟩ := kid_number b
  obtain ⟨c2, e2, h2⟩ := kid_number c
  obtain ⟨c3, e3, h3⟩ := kid_word a
  obtain ⟨c4, e4, h4⟩ := kid_word b
  obtain ⟨c5, e5, h5⟩ := kid_word c
  obtain ⟨c6, e6, h6⟩ := kid_value 0 a b
  obtain ⟨c7, e7, h7⟩ := kid_value 0 c n
  obtain ⟨c8, e8, h8⟩ := kid_value 1 b c
  obtain ⟨c9, e9, h9⟩ := kid_value 3 a b
  obtain ⟨c10, e10, h10⟩ := kid_value 5 c a
  obtain ⟨c11, e11, h11⟩ := kid_value 5 a b
  obtain ⟨k, hk, k0, k1⟩ := within_is op 16 (by omega) (by omega)
  obtain ⟨t, ht, y0, y1, vd⟩ := ref_ok n
  obtain ⟨v, w, q1, q2, q3, q4⟩ := fits_all k k0 k1 c0 c1 c2 c3 c4 c5 c6 c7 c8 c9 c10 c11 t h0 h1 h2 h3 h4 h5 h6 h7 h8 h9 h10 h11 y0 y1 vd
  unfold ActFits.F ActFits.t
  rw [known_is, Option.bind_some, bm_t, e0, Option.bind_some, e1, Option.bind_some, e2, Option.bind_some, e3, Option.bind_some, e4, Option.bind_some, e5, Option.bind_some, e6, Option.bind_some, e7, Option.bind_some, e8, Option.bind_some, e9, Option.bind_some, e10, Option.bind_some, e11, Option.bind_some, hk, Option.bind_some, if_pos k0, if_pos k1, ht, Option.bind_some]
  have h3' : ref10_Cmp.F ({ f0 := v.f0, f1 := v.f1 }, { f0 := v.f0, f1 := v.f1 }) = some 0 := q3
  refine Eq.trans (b := ((act_Do.F (⟨k, rdR [[9], [0, 1, 2], [4, 2], [0, 1, 2], [0, 1, 5], [6, 8], [0, 4, 5], [3], [0], [0, 1], [0, 1], [9], [4, 9], [0, 4], [10, 11], [6, 7]] k⟩, [c0, c1, c2, c3, c4, c5, c6, c7, c8, c9, c10, c11], t)).bind fun t20 => bm t20.2 ((ref8_Do.F (⟨k, rdR [[9], [0, 1, 2], [4, 2], [0, 1, 2], [0, 1, 5], [6, 8], [0, 4, 5], [3], [0], [0, 1], [0, 1], [9], [4, 9], [0, 4], [10, 11], [6, 7]] k⟩, [c0, c1, c2, c3, c4, c5, c6, c7, c8, c9, c10, c11], t)).bind fun t22 => bm t22.2 ((ref10_Cmp.F ({ f0 := t20.1.f0, f1 := t20.1.f1 }, { f0 := t22.1.f0, f1 := t22.1.f1 })).bind fun t24 => if t24 = 0 then some true else some false) (some false)) ((ref8_Do.F (⟨k, rdR [[9], [0, 1, 2], [4, 2], [0, 1, 2], [0, 1, 5], [6, 8], [0, 4, 5], [3], [0], [0, 1], [0, 1], [9], [4, 9], [0, 4], [10, 11], [6, 7]] k⟩, [c0, c1, c2, c3, c4, c5, c6, c7, c8, c9, c10, c11], t)).bind fun t22 => bm t22.2 (some false) ((ref10_Cmp.F ({ f0 := t20.1.f0, f1 := t20.1.f1 }, { f0 := t22.1.f0, f1 := t22.1.f1 })).bind fun t24 => if t24 = 0 then some true else some false)))) rfl ?_
  rw [q1, q2]
  simp only [Option.bind_some, h3']
  cases w <;> rfl
/-- The law's call. -/
theorem ActFits_walk (op a b c n : Int) (W : World) : Calls Try.prog 4 #[.int .i64 op, .int .i64 a, .int .i64 b, .int .i64 c, .int .i64 n] W fun e W' => e = .returned (.bool true) ∧ Below W.heap.size W W' := by
  obtain ⟨out, ho, _, hc⟩ := ActFits.good.calls [.ce (.int .i64 op), .ce (.int .i64 a), .ce (.int .i64 b), .ce (.int .i64 c), .ce (.int .i64 n)] some (.ret (.one (.ce (.bool true)))) (by
    unfold sp
    rw [show (oc sI (oc sI (oc sI (oc sI (o1 sI))))).dec [.ce (.int .i64 op), .ce (.int .i64 a), .ce (.int .i64 b), .ce (.int .i64 c), .ce (.int .i64 n)] = some (op, a, b, c, n) from rfl]
    simp only [ActFits_true]
    rfl)
  obtain rfl := Option.some.inj ho
  refine (hc ⟨fun _ => False, fun _ => undef⟩ W #[.int .i64 op, .int .i64 a, .int .i64 b, .int .i64 c, .int .i64 n] (fun _ h => h.elim) ⟨rfl, rfl, rfl, rfl, rfl, trivial⟩).mono ?_
  rintro e W' ⟨⟨v, rfl, hv⟩, hb⟩
  exact ⟨by rw [show v = .bool true from hv], hb⟩
end Ev
end Go.Proofs.Ytldfljlklfhjkaa.PE
