/- What act makes and what the document makes, of children that are told: points, money, groups. Conditions: as each states. -/
import Derived.Test.YtldfljlklfhjkaaPurF2
namespace Go.Proofs.Ytldfljlklfhjkaa.PE
open Go.RowKit Go.Proofs.YtldfljlklfhjkaaW.PrintWords Go.Proofs.YtldfljlklfhjkaaW.PrintLast Go.Proofs.YtldfljlklfhjkaaW.PrintMore
set_option linter.unusedVariables false
set_option linter.unusedSimpArgs false
namespace Ev
theorem ten_99 : ∀ j : Nat, j < 10 → dec_ten.f 99 (j : Int) = some (tenI j) := by decide +kernel
theorem bound_99 : dec_bound.f 99 = some 1000000000000000000 := by kernel_rfl
theorem join_same (x y : Int) (d : Nat) (hd : d < 10) (x0 : 0 ≤ x) (x1 : x ≤ 100000000) (y0 : 0 ≤ y) (y1 : y ≤ 100000000) : ∃ p q b, dec_Join.F (x, y, (d : Int)) = some (p, q, b) ∧ ref2_Join.F (x, y, (d : Int)) = some (p, q, b) := by
  obtain ⟨t1, t2, t3, t4, t5⟩ := ten_pos d hd
  have ea : dec_Join.F (x, y, (d : Int)) = dec_Join.j0 (99 + 1) x y (d : Int) (decide (y ≥ tenI d)) := by
    show dec_Join.f 100 x y (d : Int) = _
    unfold dec_Join.f
    rw [if_neg (by omega), if_neg (by omega), if_neg (by omega), if_neg (by omega), ten_ten d hd]; rfl
  have er : ref2_Join.F (x, y, (d : Int)) = (if y ≥ tenI d then some (0, 0, false) else if tenI d = 0 then none else if x ≥ wrap64 (Int.tdiv 1000000000000000000 (tenI d)) then some (0, 0, false) else (interlocutorref2_Norm.F (wrap64 (wrap64 (x * tenI d) + y), (d : Int))).bind fun t10 => some (t10.1, t10.2, true)) := by
    unfold ref2_Join.F ref2_Join.t
    simp only
    rw [if_neg (by omega), if_neg (by omega), if_neg (by omega), if_neg (by omega), ten_ref d hd]; rfl
  rw [ea, er]
  by_cases c : y ≥ tenI d
  · rw [if_pos c, decide_eq_true c]
    exact ⟨0, 0, false, rfl, rfl⟩
  · have hT := ten_99 d hd
    rw [if_neg c, decide_eq_false c, if_neg (by omega)]
    have hxt : 0 ≤ x * tenI d := Int.mul_nonneg x0 (by omega)
    have hxt2 : x * tenI d ≤ 100000000 * 1000000000 := Int.mul_le_mul x1 t2 (by omega) (by omega)
    have hz : x * tenI d ≤ 999999999999999999 - y := by omega
    have q1 : x ≤ (999999999999999999 - y) / tenI d := (Int.le_ediv_iff_mul_le (by omega)).2 hz
    have q2 : Int.tdiv (999999999999999999 - y) (tenI d) = (999999999999999999 - y) / tenI d := Int.tdiv_eq_ediv_of_nonneg (by omega)
    have q3 : (999999999999999999 - y) / tenI d ≤ 999999999999999999 - y := Int.ediv_le_self _ (by omega)
    have q4 : x + 1 ≤ 1000000000000000000 / tenI d := (Int.le_ediv_iff_mul_le (by omega)).2 (by rw [Int.add_mul]; omega)
    have q5 : Int.tdiv 1000000000000000000 (tenI d) = 1000000000000000000 / tenI d := Int.tdiv_eq_ediv_of_nonneg (by omega)
    have q6 : 1000000000000000000 / tenI d ≤ 1000000000000000000 := Int.ediv_le_self _ (by omega)
    have w0 : wrap64 (1000000000000000000 - 1) = 999999999999999999 := by kernel_rfl
    have w1 : wrap64 (999999999999999999 - y) = 999999999999999999 - y := wrap_id _ (by omega) (by omega)
    have w2 : wrap64 (wrap64 (x * tenI d) + y) = x * tenI d + y := by rw [wrap_id (x * tenI d) (by omega) (by omega), wrap_id _ (by omega) (by omega)]
    have ea2 : dec_Join.j0 (99 + 1) x y (d : Int) false = (dec_Norm.f (wrap64 (wrap64 (x * tenI d) + y)) (d : Int)).bind fun t => some (t.1, t.2, true) := by
      rw [dec_Join.j0, if_neg (by decide), bound_99]
      simp only [Option.bind_some, hT]
      rw [if_neg (by omega), w0, w1, q2, wrap_id ((999999999999999999 - y) / tenI d) (by omega) (by omega), if_neg (by omega)]
    rw [ea2, q5, wrap_id (1000000000000000000 / tenI d) (by omega) (by omega), if_neg (by omega), w2]
    have e1 : dec_Norm.f (x * tenI d + y) (d : Int) = some (normN d (x * tenI d + y)) := by
      unfold dec_Norm.f
      rw [if_pos ⟨by omega, by omega, by omega⟩, Int.toNat_natCast]
    have e2 : interlocutorref2_Norm.F (x * tenI d + y, (d : Int)) = some (normN d (x * tenI d + y)) := rnorm_is d 100 _ (by omega) (by omega) (by omega) (by omega)
    rw [e1, e2]
    exact ⟨_, _, true, rfl, rfl⟩
section
variable {c0 c1 c2 : S27} {m : Mom}
theorem kN_two (h : Kid c0) {n : Int} (e : kN c0 = some n) : c0.f0 = 1 ∧ ∃ d : Nat, c0.f1 = [n, (d : Int)] ∧ d < 10 ∧ 1 ≤ d := by
  unfold kN at e
  by_cases c : c0.f0 = 1
  · obtain ⟨v, d, e1, v0, v1, d0, d1, _⟩ := h.num c
    rw [if_pos c, e1] at e
    obtain rfl : v = n := Option.some.inj e
    obtain ⟨k, rfl⟩ := Int.eq_ofNat_of_zero_le (show 0 ≤ d by omega)
    exact ⟨c, k, e1, by omega, by omega⟩
  · rw [if_neg c] at e; cases e
/-- A number and one behind the point. -/
theorem point_agree (h0 : Kid c0) (h1 : Kid c1) : Agree (act_point.F (9, [c0, c1], m)) (ref8_point.F [c0, c1]) := by
  unfold act_point.F act_point.t ref8_point.F ref8_point.t
  have e0 := number_is (op := 9) (l := [c0, c1]) (m := m) 0 (by omega) (by simp) h0
  have e1 := number_is (op := 9) (l := [c0, c1]) (m := m) 1 (by omega) (by simp) h1
  have e2 := of_is (op := 9) (l := [c0, c1]) (m := m) 1 1 (by omega) (by simp)
  have q1 : (0 : Int) < ((0 + 1 + 1 : Nat) : Int) := by omega
  have q2 : (1 : Int) < ((0 + 1 + 1 : Nat) : Int) := by omega
  simp only [List.length_cons, List.length_nil] at e0 e1 e2 ⊢
  simp only [show (9, [c0, c1], m.1, m.2.1, m.2.2.1, m.2.2.2.1, m.2.2.2.2.1, m.2.2.2.2.2) = (9, [c0, c1], m) from rfl, e0, e1, e2, rd0, rd1, if_pos q1, if_pos q2, rnumber_is h0, rnumber_is h1, Option.bind_some]
  cases hx : kN c0 with
  | none => cases kN c1 <;> exact agree_no
  | some x =>
    cases hy : kN c1 with
    | none => exact agree_no
    | some y =>
      obtain ⟨k1, d, ed, dl, _⟩ := kN_two h1 hy
      obtain ⟨x0, x1⟩ := kN_bd h0 hx
      obtain ⟨y0, y1⟩ := kN_bd h1 hy
      have kf : kF 1 c1 = some c1.f1 := if_pos k1
      have g1 : rd [y, (d : Int)] 1 = (d : Int) := rfl
      obtain ⟨p, q, b, j1, j2⟩ := join_same x y d dl x0 x1 y0 y1
      simp only [kf, om_s, ed, g1, List.length_cons, List.length_nil, if_pos q2, Option.getD_some, Option.isSome_some, bm_t, j1, j2, Option.bind_some]
      cases b with
      | true =>
        simp only [bm_t, mk_is 7 [p, q] (by simp), Option.bind_some]
        exact agree_yes
      | false => exact agree_no
/-- A decimal that may be. -/
theorem dec_right {p q : Int} (h : act_Right.F ⟨7, [p, q]⟩ = some true) : ∃ s : Nat, q = (s : Int) ∧ s ≤ 18 ∧ (s = 0 ∨ p % 10 ≠ 0) ∧ -1000000000000000000 < p ∧ p < 1000000000000000000 := by
  unfold act_Right.F act_Right.t at h
  have e1 : act_fields.F 7 = some 2 := by kernel_rfl
  have qL : ((0 + 1 + 1 : Nat) : Int) = 2 := by omega
  have q1 : (0 : Int) < ((0 + 1 + 1 : Nat) : Int) := by omega
  have q2 : (1 : Int) < ((0 + 1 + 1 : Nat) : Int) := by omega
  have g0 : rd [p, q] 0 = p := rfl
  have g1 : rd [p, q] 1 = q := rfl
  simp only [e1, Option.bind_some, bm_id, List.length_cons, List.length_nil] at h
  rw [if_pos qL, if_neg (by decide), if_neg (by decide), if_neg (by decide), if_pos trivial] at h
  obtain ⟨b, hb, h⟩ := Option.bind_eq_some_iff.mp h
  obtain rfl := Option.some.inj h
  unfold act_decimal.F act_decimal.t at hb
  simp only [g0, g1, List.length_cons, List.length_nil, if_pos q1, if_pos q2] at hb
  by_cases c0 : p ≤ -1000000000000000000
  · rw [if_pos c0] at hb; cases hb
  rw [if_neg c0] at hb
  by_cases c1 : p ≥ 1000000000000000000
  · rw [if_pos c1] at hb; cases hb
  rw [if_neg c1] at hb
  by_cases c2 : q < 0
  · rw [if_pos c2] at hb; cases hb
  rw [if_neg c2] at hb
  by_cases c3 : q > 18
  · rw [if_pos c3] at hb; cases hb
  rw [if_neg c3] at hb
  obtain ⟨s, rfl⟩ := Int.eq_ofNat_of_zero_le (show 0 ≤ q by omega)
  have hN : dec_Norm.F (p, (s : Int)) = some (normN s p) := by
    show dec_Norm.f p (s : Int) = _
    unfold dec_Norm.f
    rw [if_pos ⟨by omega, by omega, by omega⟩, Int.toNat_natCast]
  rw [hN, Option.bind_some] at hb
  refine ⟨s, rfl, by omega, ?_, by omega, by omega⟩
  by_cases c4 : (normN s p).1 = p
  · rw [if_pos c4] at hb
    by_cases c5 : (normN s p).2 = (s : Int)
    · cases s with
      | zero => exact .inl rfl
      | succ s =>
        refine .inr (fun hp => ?_)
        have e : normN (s + 1) p = normN s (p / 10) := by
          show (if p % 10 = 0 then normN s (p / 10) else (p, ((s + 1 : Nat) : Int))) = _
          rw [if_pos hp]
        obtain ⟨m', s', e2, g1, _⟩ := normN_is s (p / 10) (by omega) (by omega)
        rw [e, e2] at c5
        simp only at c5
        omega
    · rw [if_neg c5] at hb; cases hb
  · rw [if_neg c4] at hb; cases hb
/-- Money. -/
theorem money_agree (h0 : Kid c0) (h1 : Kid c1) : Agree (act_money.F (12, [c0, c1], m)) (ref8_paid.F [c0, c1]) := by
  unfold act_money.F act_money.t ref8_paid.F ref8_paid.t
  have e0 := word_is (op := 12) (l := [c0, c1]) (m := m) 0 (by omega) (by simp) h0
  have e1 := of_is (op := 12) (l := [c0, c1]) (m := m) 1 7 (by omega) (by simp)
  have q1 : (0 : Int) < ((0 + 1 + 1 : Nat) : Int) := by omega
  have q2 : (1 : Int) < ((0 + 1 + 1 : Nat) : Int) := by omega
  simp only [List.length_cons, List.length_nil] at e0 e1 ⊢
  simp only [show (12, [c0, c1], m.1, m.2.1, m.2.2.1, m.2.2.2.1, m.2.2.2.2.1, m.2.2.2.2.2) = (12, [c0, c1], m) from rfl, e0, e1, rd0, rd1, if_pos q1, if_pos q2, rword_is h0, Option.bind_some]
  cases hx : kW c0 with
  | none => exact agree_no
  | some k =>
    simp only [om_s, Option.getD_some, Option.isSome_some, bm_t]
    by_cases z : c1.f0 = 7
    · obtain ⟨p, q, e⟩ := two_of (len_of h1 7 2 z (by omega) (by omega) (by kernel_rfl))
      have hv := h1.val (by omega) (by omega)
      have kf : kF 7 c1 = some c1.f1 := if_pos z
      have hc : c1 = ⟨7, [p, q]⟩ := by cases c1; simp only at z e; rw [z, e]
      rw [hc] at hv
      obtain ⟨s, rfl, hs, hn, p0, p1⟩ := dec_right hv
      have hr : ref8_Right.F { f0 := c1.f0, f1 := c1.f1 } = some true := by
        obtain ⟨b, w1, w2⟩ := same ⟨7, [p, (s : Int)]⟩
        rw [hv] at w1
        obtain rfl := Option.some.inj w1
        rw [hc]; exact w2
      have g0 : rd [p, (s : Int)] 0 = p := rfl
      have g1 : rd [p, (s : Int)] 1 = (s : Int) := rfl
      rw [kf, if_pos z, hr]
      simp only [om_s, e, g0, g1, List.length_cons, List.length_nil, if_pos q1, if_pos q2, Option.bind_some, bm_t]
      by_cases x0 : k ≥ 0
      · have ha : k.tmod 10 = (((k.tmod 10).toNat : Nat) : Int) := by have := Int.tmod_nonneg 10 x0; omega
        have ha2 : (k.tmod 10).toNat < 10 := by have := Int.tmod_lt_of_pos k (b := 10) (by omega); omega
        have s1 : dec_Scaled.F (p, (s : Int), k.tmod 10) = some (sc p s (k.tmod 10).toNat) := by
          rw [ha]; exact act_scaled p s _ p0 p1 hs hn ha2
        have s2 : ref2_Scaled.F (p, (s : Int), k.tmod 10) = some (sc p s (k.tmod 10).toNat) := by
          rw [ha]; exact ref_scaled p s _ p0 p1 hs hn ha2
        rw [if_pos x0, if_neg (show ¬ k < 0 by omega), s1, s2]
        simp only [Option.bind_some]
        cases hb : (sc p s (k.tmod 10).toNat).2 with
        | true =>
          simp only [bm_t, mk_is 8 [k, (sc p s (k.tmod 10).toNat).1] (by simp), Option.bind_some]
          exact agree_yes
        | false => exact agree_no
      · rw [if_neg x0, if_pos (show k < 0 by omega)]
        exact agree_no
    · have kf : kF 7 c1 = none := if_neg z
      rw [kf, if_neg z]
      by_cases x0 : k < 0
      · rw [if_pos x0]; exact agree_no
      · rw [if_neg x0]; exact agree_no
end
end Ev
end Go.Proofs.Ytldfljlklfhjkaa.PE
