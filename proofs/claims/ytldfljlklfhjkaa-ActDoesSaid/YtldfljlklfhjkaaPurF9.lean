/- Children of any kind, at any places: whatever Do makes of them is the document's: the plain statement behind the row. Conditions: none. -/
import Derived.Test.YtldfljlklfhjkaaPurF7
import Derived.Test.YtldfljlklfhjkaaPDt2
namespace Go.Proofs.Ytldfljlklfhjkaa.PE
open Go.RowKit Go.Proofs.YtldfljlklfhjkaaW.PrintWords Go.Proofs.YtldfljlklfhjkaaW.PrintLast Go.Proofs.YtldfljlklfhjkaaW.PrintMore
set_option linter.unusedVariables false
set_option linter.unusedSimpArgs false
namespace Ev
theorem right_kind {v : S27} (h : act_Right.F v = some true) : 4 ≤ v.f0 ∧ v.f0 ≤ 10 := by
  have h1 := right_len h
  unfold act_fields.F act_fields.t at h1
  by_cases c0 : v.f0 < 4
  · rw [if_pos c0] at h1
    have := Option.some.inj h1; omega
  rw [if_neg c0] at h1
  by_cases c1 : v.f0 > 10
  · rw [if_pos c1] at h1
    have := Option.some.inj h1; omega
  exact ⟨by omega, by omega⟩
theorem kid_value (k a b : Int) : ∃ c, law8_Value.F (k, a, b) = some c ∧ Kid c := by
  obtain ⟨v, hv, hr, l1, l2⟩ := value_ok k a b
  obtain ⟨k0, k1⟩ := right_kind hr
  exact ⟨v, hv, ⟨fun h => by omega, fun h => by omega, fun _ _ => hr, l2⟩⟩
theorem kid_num (v d : Int) (v0 : 0 ≤ v) (v1 : v ≤ 100000000) (d0 : 1 ≤ d) (d1 : d ≤ 9) (h : d ≤ 2 → v ≤ 99) : Kid ⟨1, [v, d]⟩ :=
  ⟨fun _ => ⟨v, d, rfl, v0, v1, d0, d1, h⟩, fun h => by simp at h, fun h => by simp at h, by simp⟩
theorem ref_ok (n : Int) : ∃ t : Mom, law8_Ref.F n = some t ∧ 1 ≤ t.1 ∧ t.1 ≤ 9999 ∧ Valid t.1 t.2.1 t.2.2.1 := by
  obtain ⟨y, m, d, h, hr⟩ := day_ok n
  obtain ⟨p, hp, _, _⟩ := within_is (wrap64 (Int.tdiv n 7)) 24 (by omega) (by omega)
  obtain ⟨q, hq, _, _⟩ := within_is (wrap64 (Int.tdiv n 11)) 60 (by omega) (by omega)
  obtain ⟨r, hr2, _, _⟩ := within_is (wrap64 (Int.tdiv n 13)) 60 (by omega) (by omega)
  obtain ⟨y0, y1, v⟩ := right_valid hr
  refine ⟨(y, m, d, p, q, r), ?_, y0, y1, v⟩
  unfold law8_Ref.F law8_Ref.t
  rw [h, Option.bind_some, hp, Option.bind_some, hq, Option.bind_some, hr2, Option.bind_some]
theorem digits_all (x : Int) (h0 : 0 ≤ x) (h1 : x ≤ 1000001) (w : Int → Option S27) (hw : ∀ k : Int, 1 ≤ k → k ≤ 7 → (k ≤ 1 → x ≤ 9) → (k ≤ 2 → x ≤ 99) → ∃ c, w k = some c ∧ Kid c) :
    ∃ c, (if x ≥ 10 then (if wrap64 (x.tdiv 10) ≥ 10 then (if wrap64 ((wrap64 (x.tdiv 10)).tdiv 10) ≥ 10 then (if wrap64 ((wrap64 ((wrap64 (x.tdiv 10)).tdiv 10)).tdiv 10) ≥ 10 then (if wrap64 ((wrap64 ((wrap64 ((wrap64 (x.tdiv 10)).tdiv 10)).tdiv 10)).tdiv 10) ≥ 10 then (if wrap64 ((wrap64 ((wrap64 ((wrap64 ((wrap64 (x.tdiv 10)).tdiv 10)).tdiv 10)).tdiv 10)).tdiv 10) ≥ 10 then (if wrap64 ((wrap64 ((wrap64 ((wrap64 ((wrap64 ((wrap64 (x.tdiv 10)).tdiv 10)).tdiv 10)).tdiv 10)).tdiv 10)).tdiv 10) ≥ 10 then (if wrap64 ((wrap64 ((wrap64 ((wrap64 ((wrap64 ((wrap64 ((wrap64 (x.tdiv 10)).tdiv 10)).tdiv 10)).tdiv 10)).tdiv 10)).tdiv 10)).tdiv 10) ≥ 10 then (if wrap64 ((wrap64 ((wrap64 ((wrap64 ((wrap64 ((wrap64 ((wrap64 ((wrap64 (x.tdiv 10)).tdiv 10)).tdiv 10)).tdiv 10)).tdiv 10)).tdiv 10)).tdiv 10)).tdiv 10) ≥ 10 then none else w 9) else w 8) else w 7) else w 6) else w 5) else w 4) else w 3) else w 2) else w 1) = some c ∧ Kid c := by
  have e1 : wrap64 (Int.tdiv (x) 10) = x / 10 := by rw [Int.tdiv_eq_ediv_of_nonneg (by omega), wrap_id _ (by omega) (by omega)]
  have e2 : wrap64 (Int.tdiv (x / 10) 10) = (x / 10) / 10 := by rw [Int.tdiv_eq_ediv_of_nonneg (by omega), wrap_id _ (by omega) (by omega)]
  have e3 : wrap64 (Int.tdiv ((x / 10) / 10) 10) = ((x / 10) / 10) / 10 := by rw [Int.tdiv_eq_ediv_of_nonneg (by omega), wrap_id _ (by omega) (by omega)]
  have e4 : wrap64 (Int.tdiv (((x / 10) / 10) / 10) 10) = (((x / 10) / 10) / 10) / 10 := by rw [Int.tdiv_eq_ediv_of_nonneg (by omega), wrap_id _ (by omega) (by omega)]
  have e5 : wrap64 (Int.tdiv ((((x / 10) / 10) / 10) / 10) 10) = ((((x / 10) / 10) / 10) / 10) / 10 := by rw [Int.tdiv_eq_ediv_of_nonneg (by omega), wrap_id _ (by omega) (by omega)]
  have e6 : wrap64 (Int.tdiv (((((x / 10) / 10) / 10) / 10) / 10) 10) = (((((x / 10) / 10) / 10) / 10) / 10) / 10 := by rw [Int.tdiv_eq_ediv_of_nonneg (by omega), wrap_id _ (by omega) (by omega)]
  have e7 : wrap64 (Int.tdiv ((((((x / 10) / 10) / 10) / 10) / 10) / 10) 10) = ((((((x / 10) / 10) / 10) / 10) / 10) / 10) / 10 := by rw [Int.tdiv_eq_ediv_of_nonneg (by omega), wrap_id _ (by omega) (by omega)]
  have e8 : wrap64 (Int.tdiv (((((((x / 10) / 10) / 10) / 10) / 10) / 10) / 10) 10) = (((((((x / 10) / 10) / 10) / 10) / 10) / 10) / 10) / 10 := by rw [Int.tdiv_eq_ediv_of_nonneg (by omega), wrap_id _ (by omega) (by omega)]
  simp only [e1, e2, e3, e4, e5, e6, e7, e8]
  by_cases c1 : x ≥ 10
  rotate_left
  · rw [if_neg c1]; exact hw 1 (by omega) (by omega) (by omega) (by omega)
  rw [if_pos c1]
  by_cases c2 : x / 10 ≥ 10
  rotate_left
  · rw [if_neg c2]; exact hw 2 (by omega) (by omega) (by omega) (by omega)
  rw [if_pos c2]
  by_cases c3 : (x / 10) / 10 ≥ 10
  rotate_left
  · rw [if_neg c3]; exact hw 3 (by omega) (by omega) (by omega) (by omega)
  rw [if_pos c3]
  by_cases c4 : ((x / 10) / 10) / 10 ≥ 10
  rotate_left
  · rw [if_neg c4]; exact hw 4 (by omega) (by omega) (by omega) (by omega)
  rw [if_pos c4]
  by_cases c5 : (((x / 10) / 10) / 10) / 10 ≥ 10
  rotate_left
  · rw [if_neg c5]; exact hw 5 (by omega) (by omega) (by omega) (by omega)
  rw [if_pos c5]
  by_cases c6 : ((((x / 10) / 10) / 10) / 10) / 10 ≥ 10
  rotate_left
  · rw [if_neg c6]; exact hw 6 (by omega) (by omega) (by omega) (by omega)
  rw [if_pos c6]
  rw [if_neg (show ¬ (((((x / 10) / 10) / 10) / 10) / 10) / 10 ≥ 10 by omega)]; exact hw 7 (by omega) (by omega) (by omega) (by omega)
theorem rd18 (t : Int) (t0 : 0 ≤ t) (t1 : t < 18) : 0 ≤ rd [0, 1, 2, 5, 12, 13, 24, 29, 31, 60, 99, 100, 2024, 9999, 10000, 999, 1000000, 1000001] t ∧ rd [0, 1, 2, 5, 12, 13, 24, 29, 31, 60, 99, 100, 2024, 9999, 10000, 999, 1000000, 1000001] t ≤ 1000001 := by
  rcases (show t = 0 ∨ t = 1 ∨ t = 2 ∨ t = 3 ∨ t = 4 ∨ t = 5 ∨ t = 6 ∨ t = 7 ∨ t = 8 ∨ t = 9 ∨ t = 10 ∨ t = 11 ∨ t = 12 ∨ t = 13 ∨ t = 14 ∨ t = 15 ∨ t = 16 ∨ t = 17 by omega) with rfl | rfl | rfl | rfl | rfl | rfl | rfl | rfl | rfl | rfl | rfl | rfl | rfl | rfl | rfl | rfl | rfl | rfl <;> decide
theorem rd14 (t : Int) (t0 : 0 ≤ t) (t1 : t < 14) : -2147483648 ≤ rd [0, 1, 2, 3, 4, 6, 7, -1, -2, 12, 60, 9782, 3920, 1073741824] t ∧ rd [0, 1, 2, 3, 4, 6, 7, -1, -2, 12, 60, 9782, 3920, 1073741824] t ≤ 2147483648 := by
  rcases (show t = 0 ∨ t = 1 ∨ t = 2 ∨ t = 3 ∨ t = 4 ∨ t = 5 ∨ t = 6 ∨ t = 7 ∨ t = 8 ∨ t = 9 ∨ t = 10 ∨ t = 11 ∨ t = 12 ∨ t = 13 by omega) with rfl | rfl | rfl | rfl | rfl | rfl | rfl | rfl | rfl | rfl | rfl | rfl | rfl | rfl <;> decide
theorem kid_digits (q x : Int) (h0 : 0 ≤ x) (h1 : x ≤ 1000001) (k : Int) (k0 : 1 ≤ k) (k1 : k ≤ 7) (h9 : k ≤ 1 → x ≤ 9) (h99 : k ≤ 2 → x ≤ 99) : ∃ c, ((interlocutorlaw8_within.F (q, 2)).bind fun t => some (⟨1, [x, wrap64 (k + t)]⟩ : S27)) = some c ∧ Kid c := by
  obtain ⟨t, ht, t0, t1⟩ := within_is q 2 (by omega) (by omega)
  rw [ht, Option.bind_some, wrap_id (k + t) (by omega) (by omega)]
  exact ⟨_, rfl, kid_num x (k + t) h0 (by omega) (by omega) (by omega) fun h => h99 (by omega)⟩
theorem kid_child (n : Int) : ∃ c, law8_Child.F n = some c ∧ Kid c := by
  obtain ⟨s, hs, s0, s1⟩ := within_is n 8 (by omega) (by omega)
  obtain ⟨t, ht, t0, t1⟩ := within_is (wrap64 (Int.tdiv n 8)) 18 (by omega) (by omega)
  obtain ⟨u, hu, u0, u1⟩ := within_is (wrap64 (Int.tdiv n 8)) 14 (by omega) (by omega)
  obtain ⟨r0, r1⟩ := rd18 t t0 t1
  have num := digits_all (rd [0, 1, 2, 5, 12, 13, 24, 29, 31, 60, 99, 100, 2024, 9999, 10000, 999, 1000000, 1000001] t) r0 r1 (fun k => (interlocutorlaw8_within.F (wrap64 ((wrap64 (n.tdiv 8)).tdiv 18), 2)).bind fun t' => some (⟨1, [rd [0, 1, 2, 5, 12, 13, 24, 29, 31, 60, 99, 100, 2024, 9999, 10000, 999, 1000000, 1000001] t, wrap64 (k + t')]⟩ : S27)) fun k k0 k1 h9 h99 => kid_digits _ _ r0 r1 k k0 k1 h9 h99
  have wrd : Kid ⟨2, [rd [0, 1, 2, 3, 4, 6, 7, -1, -2, 12, 60, 9782, 3920, 1073741824] u]⟩ := ⟨fun h => by simp at h, fun _ => ⟨_, rfl, rd14 u u0 u1⟩, fun h => by simp at h, by simp⟩
  unfold law8_Child.F law8_Child.t
  rw [hs, Option.bind_some]
  by_cases a0 : s = 0
  · rw [if_pos a0, ht, Option.bind_some, if_pos t0, if_pos t1]; exact num
  rw [if_neg a0]
  by_cases a1 : s = 1
  · rw [if_pos a1, ht, Option.bind_some, if_pos t0, if_pos t1]; exact num
  rw [if_neg a1]
  by_cases a2 : s = 2
  · rw [if_pos a2, ht, Option.bind_some, if_pos t0, if_pos t1]; exact num
  rw [if_neg a2]
  by_cases a3 : s = 3
  · rw [if_pos a3, hu, Option.bind_some, if_pos u0, if_pos u1]; exact ⟨_, rfl, wrd⟩
  rw [if_neg a3]
  by_cases a4 : s = 4
  · rw [if_pos a4, hu, Option.bind_some, if_pos u0, if_pos u1]; exact ⟨_, rfl, wrd⟩
  rw [if_neg a4]
  by_cases a5 : s = 5
  · rw [if_pos a5]; exact ⟨_, rfl, fun h => by simp at h, fun h => by simp at h, fun h => by simp at h, by simp⟩
  rw [if_neg a5]
  obtain ⟨c, hc, kc⟩ := kid_value (wrap64 (n.tdiv 8)) (wrap64 ((wrap64 (n.tdiv 8)).tdiv 3)) (wrap64 ((wrap64 (n.tdiv 8)).tdiv 5))
  rw [hc, Option.bind_some]
  exact ⟨c, rfl, kc⟩
/-- How many children an action asks for. -/
def Asks (o c : Int) : Prop := (o = 0 ∧ c = 1) ∨ (o = 1 ∧ c = 3) ∨ (o = 2 ∧ c = 2) ∨ (o = 3 ∧ 2 ≤ c ∧ c ≤ 3) ∨ (o = 4 ∧ 2 ≤ c ∧ c ≤ 3) ∨ (o = 5 ∧ c = 2) ∨ (o = 6 ∧ c = 3) ∨ (o = 7 ∧ c = 1) ∨ (o = 8 ∧ c = 1) ∨ (o = 9 ∧ c = 2) ∨ (o = 10 ∧ 1 ≤ c ∧ c ≤ 6) ∨ (o = 11 ∧ c = 1) ∨ (o = 12 ∧ c = 2) ∨ (o = 13 ∧ c = 2) ∨ (o = 14 ∧ c = 2) ∨ (o = 15 ∧ c = 2)
theorem asks_tab (o : Int) (o0 : 0 ≤ o) (o1 : o < 16) (h3 : ¬ o = 3) (h4 : ¬ o = 4) (h10 : ¬ o = 10) : Asks o (rd [1, 3, 2, 2, 2, 2, 3, 1, 1, 2, 1, 1, 2, 2, 2, 2] o) := by
  unfold Asks
  rcases (show o = 0 ∨ o = 1 ∨ o = 2 ∨ o = 5 ∨ o = 6 ∨ o = 7 ∨ o = 8 ∨ o = 9 ∨ o = 11 ∨ o = 12 ∨ o = 13 ∨ o = 14 ∨ o = 15 by omega) with rfl | rfl | rfl | rfl | rfl | rfl | rfl | rfl | rfl | rfl | rfl | rfl | rfl <;> decide
theorem wants_is (o n : Int) (o0 : 0 ≤ o) (o1 : o < 16) : ∃ c, law8_wants.F (o, n) = some c ∧ Asks o c := by
  obtain ⟨t, ht, t0, t1⟩ := within_is n 2 (by omega) (by omega)
  obtain ⟨u, hu, u0, u1⟩ := within_is n 6 (by omega) (by omega)
  unfold law8_wants.F law8_wants.t
  rw [ht, hu, Option.bind_some, Option.bind_some, wrap_id (2 + t) (by omega) (by omega), wrap_id (1 + u) (by omega) (by omega)]
  by_cases h3 : o = 3
  · rw [if_pos h3]; exact ⟨_, rfl, by unfold Asks; omega⟩
  rw [if_neg h3]
  by_cases h4 : o = 4
  · rw [if_pos h4]; exact ⟨_, rfl, by unfold Asks; omega⟩
  rw [if_neg h4]
  by_cases h10 : o = 10
  · rw [if_pos h10]; exact ⟨_, rfl, by unfold Asks; omega⟩
  rw [if_neg h10, if_pos o0, if_pos o1]
  exact ⟨_, rfl, asks_tab o o0 o1 h3 h4 h10⟩
theorem kid_rd {l : List S27} (hl : ∀ v ∈ l, Kid v) {p : Int} (h : 0 ≤ p ∧ p < (l.length : Int)) : Kid (rd_T27 l p) := by
  unfold rd_T27
  have hlt : p.toNat < l.length := by omega
  rw [List.getD_eq_getElem?_getD, List.getElem?_eq_getElem hlt]
  exact hl _ (List.getElem_mem hlt)
theorem len1 {P : List Int} (h : (P.length : Int) = 1) : ∃ p0, P = [p0] := by
  match P, h with
  | [p0], _ => exact ⟨p0, rfl⟩
  | [], h => simp at h
  | _ :: _ :: r, h => exfalso; simp at h; omega
theorem len2 {P : List Int} (h : (P.length : Int) = 2) : ∃ p0 p1, P = [p0, p1] := by
  match P, h with
  | [p0, p1], _ => exact ⟨p0, p1, rfl⟩
  | [], h => simp at h
  | [q0], h => simp at h
  | _ :: _ :: _ :: r, h => exfalso; simp at h; omega
theorem len3 {P : List Int} (h : (P.length : Int) = 3) : ∃ p0 p1 p2, P = [p0, p1, p2] := by
  match P, h with
  | [p0, p1, p2], _ => exact ⟨p0, p1, p2, rfl⟩
  | [], h => simp at h
  | [q0], h => simp at h
  | [q0, q1], h => simp at h
  | _ :: _ :: _ :: _ :: r, h => exfalso; simp at h; omega
theorem len4 {P : List Int} (h : (P.length : Int) = 4) : ∃ p0 p1 p2 p3, P = [p0, p1, p2, p3] := by
  match P, h with
  | [p0, p1, p2, p3], _ => exact ⟨p0, p1, p2, p3, rfl⟩
  | [], h => simp at h
  | [q0], h => simp at h
  | [q0, q1], h => simp at h
  | [q0, q1, q2], h => simp at h
  | _ :: _ :: _ :: _ :: _ :: r, h => exfalso; simp at h; omega
theorem len5 {P : List Int} (h : (P.length : Int) = 5) : ∃ p0 p1 p2 p3 p4, P = [p0, p1, p2, p3, p4] := by
  match P, h with
  | [p0, p1, p2, p3, p4], _ => exact ⟨p0, p1, p2, p3, p4, rfl⟩
  | [], h => simp at h
  | [q0], h => simp at h
  | [q0, q1], h => simp at h
  | [q0, q1, q2], h => simp at h
  | [q0, q1, q2, q3], h => simp at h
  | _ :: _ :: _ :: _ :: _ :: _ :: r, h => exfalso; simp at h; omega
theorem len6 {P : List Int} (h : (P.length : Int) = 6) : ∃ p0 p1 p2 p3 p4 p5, P = [p0, p1, p2, p3, p4, p5] := by
  match P, h with
  | [p0, p1, p2, p3, p4, p5], _ => exact ⟨p0, p1, p2, p3, p4, p5, rfl⟩
  | [], h => simp at h
  | [q0], h => simp at h
  | [q0, q1], h => simp at h
  | [q0, q1, q2], h => simp at h
  | [q0, q1, q2, q3], h => simp at h
  | [q0, q1, q2, q3, q4], h => simp at h
  | _ :: _ :: _ :: _ :: _ :: _ :: _ :: r, h => exfalso; simp at h; omega
theorem does_all (o : Int) (l : List S27) (P : List Int) (m : Mom) (ha : Asks o (P.length : Int)) (hl : ∀ v ∈ l, Kid v) (H : ∀ p ∈ P, 0 ≤ p ∧ p < (l.length : Int)) (y0 : 1 ≤ m.1) (y1 : m.1 ≤ 9999) (vd : Valid m.1 m.2.1 m.2.2.1) :
    Does act_Do.F ref8_Do.F ref10_Cmp.F act_Right.F o P l m := by
  rcases ha with ⟨rfl, h⟩ | ⟨rfl, h⟩ | ⟨rfl, h⟩ | ⟨rfl, ha, hb⟩ | ⟨rfl, ha, hb⟩ | ⟨rfl, h⟩ | ⟨rfl, h⟩ | ⟨rfl, h⟩ | ⟨rfl, h⟩ | ⟨rfl, h⟩ | ⟨rfl, ha, hb⟩ | ⟨rfl, h⟩ | ⟨rfl, h⟩ | ⟨rfl, h⟩ | ⟨rfl, h⟩ | ⟨rfl, h⟩
  · obtain ⟨p0, rfl⟩ := len1 h
    have hp := H p0 (by simp)
    have kp := kid_rd hl hp
    obtain ⟨e1, e2⟩ := pick_one p0 l m hp.1 hp.2 kp.len
    exact ⟨rd_T27 l p0, true, e1, e2, cmp_self _ kp.len, fun _ => .inl rfl⟩
  · obtain ⟨p0, p1, p2, rfl⟩ := len3 h
    obtain ⟨v, b, e1, e2, e3, e4⟩ := one_cmp (do_both 1 [p0, p1, p2] l m (by decide) (by simp) H (ref_do3 1 p0 p1 p2 l m (by decide) H) (made1 (kid_rd hl (H p0 (by simp))) (kid_rd hl (H p1 (by simp))) (kid_rd hl (H p2 (by simp))) y0 y1))
    exact ⟨v, b, e1, e2, e3, fun h => .inr (e4 h)⟩
  · obtain ⟨p0, p1, rfl⟩ := len2 h
    obtain ⟨v, b, e1, e2, e3, e4⟩ := one_cmp (do_both 2 [p0, p1] l m (by decide) (by simp) H (ref_do2 2 p0 p1 l m (by decide) H) (made2 (kid_rd hl (H p0 (by simp))) (kid_rd hl (H p1 (by simp))) ))
    exact ⟨v, b, e1, e2, e3, fun h => .inr (e4 h)⟩
  · rcases (show (P.length : Int) = 2 ∨ (P.length : Int) = 3 by omega) with h | h
    · obtain ⟨p0, p1, rfl⟩ := len2 h
      obtain ⟨v, b, e1, e2, e3, e4⟩ := one_cmp (do_both 3 [p0, p1] l m (by decide) (by simp) H (ref_do2 3 p0 p1 l m (by decide) H) (made3a (kid_rd hl (H p0 (by simp))) (kid_rd hl (H p1 (by simp))) ))
      exact ⟨v, b, e1, e2, e3, fun h => .inr (e4 h)⟩
    · obtain ⟨p0, p1, p2, rfl⟩ := len3 h
      obtain ⟨v, b, e1, e2, e3, e4⟩ := one_cmp (do_both 3 [p0, p1, p2] l m (by decide) (by simp) H (ref_do3 3 p0 p1 p2 l m (by decide) H) (made3b (kid_rd hl (H p0 (by simp))) (kid_rd hl (H p1 (by simp))) (kid_rd hl (H p2 (by simp))) ))
      exact ⟨v, b, e1, e2, e3, fun h => .inr (e4 h)⟩
  · rcases (show (P.length : Int) = 2 ∨ (P.length : Int) = 3 by omega) with h | h
    · obtain ⟨p0, p1, rfl⟩ := len2 h
      obtain ⟨v, b, e1, e2, e3, e4⟩ := one_cmp (do_both 4 [p0, p1] l m (by decide) (by simp) H (ref_do2 4 p0 p1 l m (by decide) H) (made4a (kid_rd hl (H p0 (by simp))) (kid_rd hl (H p1 (by simp))) ))
      exact ⟨v, b, e1, e2, e3, fun h => .inr (e4 h)⟩
    · obtain ⟨p0, p1, p2, rfl⟩ := len3 h
      obtain ⟨v, b, e1, e2, e3, e4⟩ := one_cmp (do_both 4 [p0, p1, p2] l m (by decide) (by simp) H (ref_do3 4 p0 p1 p2 l m (by decide) H) (made4b (kid_rd hl (H p0 (by simp))) (kid_rd hl (H p1 (by simp))) (kid_rd hl (H p2 (by simp))) ))
      exact ⟨v, b, e1, e2, e3, fun h => .inr (e4 h)⟩
  · obtain ⟨p0, p1, rfl⟩ := len2 h
    obtain ⟨v, b, e1, e2, e3, e4⟩ := one_cmp (do_both 5 [p0, p1] l m (by decide) (by simp) H (ref_do2 5 p0 p1 l m (by decide) H) (made5 (kid_rd hl (H p0 (by simp))) (kid_rd hl (H p1 (by simp))) ))
    exact ⟨v, b, e1, e2, e3, fun h => .inr (e4 h)⟩
  · obtain ⟨p0, p1, p2, rfl⟩ := len3 h
    obtain ⟨v, b, e1, e2, e3, e4⟩ := one_cmp (do_both 6 [p0, p1, p2] l m (by decide) (by simp) H (ref_do3 6 p0 p1 p2 l m (by decide) H) (made6 (kid_rd hl (H p0 (by simp))) (kid_rd hl (H p1 (by simp))) (kid_rd hl (H p2 (by simp))) y0 y1 vd))
    exact ⟨v, b, e1, e2, e3, fun h => .inr (e4 h)⟩
  · obtain ⟨p0, rfl⟩ := len1 h
    obtain ⟨v, b, e1, e2, e3, e4⟩ := one_cmp (do_both 7 [p0] l m (by decide) (by simp) H (ref_do1 7 p0 l m (by decide) H) (made7 (kid_rd hl (H p0 (by simp))) y0 y1 vd))
    exact ⟨v, b, e1, e2, e3, fun h => .inr (e4 h)⟩
  · obtain ⟨p0, rfl⟩ := len1 h
    obtain ⟨v, b, e1, e2, e3, e4⟩ := one_cmp (do_both 8 [p0] l m (by decide) (by simp) H (ref_do1 8 p0 l m (by decide) H) (made8 (kid_rd hl (H p0 (by simp))) ))
    exact ⟨v, b, e1, e2, e3, fun h => .inr (e4 h)⟩
  · obtain ⟨p0, p1, rfl⟩ := len2 h
    obtain ⟨v, b, e1, e2, e3, e4⟩ := one_cmp (do_both 9 [p0, p1] l m (by decide) (by simp) H (ref_do2 9 p0 p1 l m (by decide) H) (made9 (kid_rd hl (H p0 (by simp))) (kid_rd hl (H p1 (by simp))) ))
    exact ⟨v, b, e1, e2, e3, fun h => .inr (e4 h)⟩
  · rcases (show (P.length : Int) = 1 ∨ (P.length : Int) = 2 ∨ (P.length : Int) = 3 ∨ (P.length : Int) = 4 ∨ (P.length : Int) = 5 ∨ (P.length : Int) = 6 by omega) with h | h | h | h | h | h
    · obtain ⟨p0, rfl⟩ := len1 h
      obtain ⟨v, b, e1, e2, e3, e4⟩ := one_cmp (do_both 10 [p0] l m (by decide) (by simp) H (ref_do1 10 p0 l m (by decide) H) (made10_1 (kid_rd hl (H p0 (by simp))) ))
      exact ⟨v, b, e1, e2, e3, fun h => .inr (e4 h)⟩
    · obtain ⟨p0, p1, rfl⟩ := len2 h
      obtain ⟨v, b, e1, e2, e3, e4⟩ := one_cmp (do_both 10 [p0, p1] l m (by decide) (by simp) H (ref_do2 10 p0 p1 l m (by decide) H) (made10_2 (kid_rd hl (H p0 (by simp))) (kid_rd hl (H p1 (by simp))) ))
      exact ⟨v, b, e1, e2, e3, fun h => .inr (e4 h)⟩
    · obtain ⟨p0, p1, p2, rfl⟩ := len3 h
      obtain ⟨v, b, e1, e2, e3, e4⟩ := one_cmp (do_both 10 [p0, p1, p2] l m (by decide) (by simp) H (ref_do3 10 p0 p1 p2 l m (by decide) H) (made10_3 (kid_rd hl (H p0 (by simp))) (kid_rd hl (H p1 (by simp))) (kid_rd hl (H p2 (by simp))) ))
      exact ⟨v, b, e1, e2, e3, fun h => .inr (e4 h)⟩
    · obtain ⟨p0, p1, p2, p3, rfl⟩ := len4 h
      obtain ⟨v, b, e1, e2, e3, e4⟩ := one_cmp (do_both 10 [p0, p1, p2, p3] l m (by decide) (by simp) H (ref_do4 10 p0 p1 p2 p3 l m (by decide) H) (made10_4 (kid_rd hl (H p0 (by simp))) (kid_rd hl (H p1 (by simp))) (kid_rd hl (H p2 (by simp))) (kid_rd hl (H p3 (by simp))) ))
      exact ⟨v, b, e1, e2, e3, fun h => .inr (e4 h)⟩
    · obtain ⟨p0, p1, p2, p3, p4, rfl⟩ := len5 h
      obtain ⟨v, b, e1, e2, e3, e4⟩ := one_cmp (do_both 10 [p0, p1, p2, p3, p4] l m (by decide) (by simp) H (ref_do5 10 p0 p1 p2 p3 p4 l m (by decide) H) (made10_5 (kid_rd hl (H p0 (by simp))) (kid_rd hl (H p1 (by simp))) (kid_rd hl (H p2 (by simp))) (kid_rd hl (H p3 (by simp))) (kid_rd hl (H p4 (by simp))) ))
      exact ⟨v, b, e1, e2, e3, fun h => .inr (e4 h)⟩
    · obtain ⟨p0, p1, p2, p3, p4, p5, rfl⟩ := len6 h
      obtain ⟨v, b, e1, e2, e3, e4⟩ := one_cmp (do_both 10 [p0, p1, p2, p3, p4, p5] l m (by decide) (by simp) H (ref_do6 10 p0 p1 p2 p3 p4 p5 l m (by decide) H) (made10_6 (kid_rd hl (H p0 (by simp))) (kid_rd hl (H p1 (by simp))) (kid_rd hl (H p2 (by simp))) (kid_rd hl (H p3 (by simp))) (kid_rd hl (H p4 (by simp))) (kid_rd hl (H p5 (by simp))) ))
      exact ⟨v, b, e1, e2, e3, fun h => .inr (e4 h)⟩
  · obtain ⟨p0, rfl⟩ := len1 h
    obtain ⟨v, b, e1, e2, e3, e4⟩ := one_cmp (do_both 11 [p0] l m (by decide) (by simp) H (ref_do1 11 p0 l m (by decide) H) (made11 (kid_rd hl (H p0 (by simp))) ))
    exact ⟨v, b, e1, e2, e3, fun h => .inr (e4 h)⟩
  · obtain ⟨p0, p1, rfl⟩ := len2 h
    obtain ⟨v, b, e1, e2, e3, e4⟩ := one_cmp (do_both 12 [p0, p1] l m (by decide) (by simp) H (ref_do2 12 p0 p1 l m (by decide) H) (made12 (kid_rd hl (H p0 (by simp))) (kid_rd hl (H p1 (by simp))) ))
    exact ⟨v, b, e1, e2, e3, fun h => .inr (e4 h)⟩
  · obtain ⟨p0, p1, rfl⟩ := len2 h
    obtain ⟨v, b, e1, e2, e3, e4⟩ := one_cmp (do_both 13 [p0, p1] l m (by decide) (by simp) H (ref_do2 13 p0 p1 l m (by decide) H) (made13 (kid_rd hl (H p0 (by simp))) (kid_rd hl (H p1 (by simp))) ))
    exact ⟨v, b, e1, e2, e3, fun h => .inr (e4 h)⟩
  · obtain ⟨p0, p1, rfl⟩ := len2 h
    obtain ⟨v, b, e1, e2, e3, e4⟩ := one_cmp (do_both 14 [p0, p1] l m (by decide) (by simp) H (ref_do2 14 p0 p1 l m (by decide) H) (made14 (kid_rd hl (H p0 (by simp))) (kid_rd hl (H p1 (by simp))) ))
    exact ⟨v, b, e1, e2, e3, fun h => .inr (e4 h)⟩
  · obtain ⟨p0, p1, rfl⟩ := len2 h
    obtain ⟨v, b, e1, e2, e3, e4⟩ := one_cmp (do_both 15 [p0, p1] l m (by decide) (by simp) H (ref_do2 15 p0 p1 l m (by decide) H) (made15 (kid_rd hl (H p0 (by simp))) (kid_rd hl (H p1 (by simp))) ))
    exact ⟨v, b, e1, e2, e3, fun h => .inr (e4 h)⟩
theorem ActDoes_run (op n : Int) (ns ps : List Int) (hns : (ns.length : Int) ≤ 4611686018427387904) :
    adF (adΓ law8_known.F interlocutorlaw8_within.F law8_Child.F law8_wants.F law8_Ref.F act_Do.F ref8_Do.F ref10_Cmp.F act_Right.F) (init Try.f3 ((oc sI (oc sL (oc sL (o1 sI)))).enc (op, ns, ps, n))) (finK Try.f3) = some (.ret (bo true)) := by
  obtain ⟨m, hm, y0, y1, vd⟩ := ref_ok n
  refine ad_walk (P := Kid) law8_known.F interlocutorlaw8_within.F law8_Child.F law8_wants.F law8_Ref.F act_Do.F ref8_Do.F ref10_Cmp.F act_Right.F op ns ps n known_is hns (fun x c h0 h1 => within_is x c h0 (by omega)) (fun t _ _ => kid_child t) (fun o o0 o1 => ?_) hm (fun o l p o0 o1 hl l0 l6 hw H => ?_)
  · obtain ⟨c, hc, ha⟩ := wants_is o n o0 o1
    exact ⟨c, hc, by unfold Asks at ha; omega, by unfold Asks at ha; omega⟩
  · obtain ⟨c, hc, ha⟩ := wants_is o n o0 o1
    rw [hc] at hw
    rw [Option.some.inj hw] at ha
    exact does_all o l p m ha hl H y0 y1 vd
theorem does_ok : Ok (adΓ law8_known.F interlocutorlaw8_within.F law8_Child.F law8_wants.F law8_Ref.F act_Do.F ref8_Do.F ref10_Cmp.F act_Right.F) :=
  Ok.cons law8_known.good (Ok.cons interlocutorlaw8_within.good (Ok.cons law8_Child.good (Ok.cons law8_wants.good (Ok.cons law8_Ref.good (Ok.cons act_Do.good (Ok.cons ref8_Do.good (Ok.cons ref10_Cmp.good (Ok.cons act_Right.good Ok.nil))))))))
theorem ActDoes_walk (op n : Int) (s t : Value) (ns ps : List Int) (W : World) (hs : SlI ⟨fun _ => False, fun _ => undef⟩ W s ns) (ht : SlI ⟨fun _ => False, fun _ => undef⟩ W t ps) (hns : (ns.length : Int) ≤ 4611686018427387904) :
    Calls Try.prog 3 #[.int .i64 op, s, t, .int .i64 n] W fun e W' => e = .returned (.bool true) ∧ Below W.heap.size W W' := by
  refine (calls_of_runF (f := 3) (fn := Try.f3) (c := adC) (by kernel_rfl) (by kernel_rfl) (adF_ok does_ok) (ActDoes_run op n ns ps hns) ⟨fun _ => False, fun _ => undef⟩ W #[.int .i64 op, s, t, .int .i64 n] (fun _ h => h.elim) ⟨rfl, ⟨hs, nofalse⟩, ⟨ht, nofalse⟩, rfl, trivial⟩).mono ?_
  rintro e W' ⟨⟨v, rfl, hv⟩, hb⟩
  exact ⟨by rw [show v = .bool true from hv], hb⟩
end Ev
end Go.Proofs.Ytldfljlklfhjkaa.PE
