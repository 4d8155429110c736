/- What act makes and what the document makes, of children that are told: groups of three digits. Conditions: as each states. -/
import Derived.Test.YtldfljlklfhjkaaPurF5
namespace Go.Proofs.Ytldfljlklfhjkaa.PE
open Go.RowKit Go.Proofs.YtldfljlklfhjkaaW.PrintWords Go.Proofs.YtldfljlklfhjkaaW.PrintLast Go.Proofs.YtldfljlklfhjkaaW.PrintMore
set_option linter.unusedVariables false
set_option linter.unusedSimpArgs false
namespace Ev
theorem wrap_bd (x : Int) : -9223372036854775808 ≤ wrap64 x ∧ wrap64 x ≤ 9223372036854775807 := by unfold wrap64; omega
theorem kf_no {c : S27} (h : ¬ c.f0 = 1) : kF 1 c = none ∧ kN c = none := ⟨if_neg h, if_neg h⟩
theorem kf_yes {c : S27} (hk : Kid c) (h : c.f0 = 1) : ∃ v d, c.f1 = [v, d] ∧ kF 1 c = some [v, d] ∧ kN c = some v ∧ 1 ≤ d := by
  obtain ⟨v, d, e, _, _, d0, _⟩ := hk.num h
  refine ⟨v, d, e, ?_, ?_, d0⟩
  · unfold kF; rw [if_pos h, e]
  · unfold kN; rw [if_pos h, e]; rfl
theorem fin_group (n : Int) : Agree ((act_normed.F (wrap64 n, 0)).bind fun t => some (some ⟨t.f0, t.f1⟩)) ((ref8_whole.F (wrap64 n, 0)).bind fun t => some (⟨t.f0, t.f1⟩, true)) := by
  obtain ⟨e1, e2⟩ := whole_same (wrap64 n) (wrap_bd n).1 (wrap_bd n).2
  rw [e1, e2]
  exact agree_yes
section
variable {c0 c1 c2 c3 c4 c5 : S27} {m : Mom}
theorem rd3 {l : List S27} : rd_T27 (c0 :: c1 :: c2 :: c3 :: l) 3 = c3 := rfl
theorem rd4 {l : List S27} : rd_T27 (c0 :: c1 :: c2 :: c3 :: c4 :: l) 4 = c4 := rfl
theorem rd5 {l : List S27} : rd_T27 (c0 :: c1 :: c2 :: c3 :: c4 :: c5 :: l) 5 = c5 := rfl
theorem group1_agree (h0 : Kid c0) : Agree (act_group.F (10, [c0], m)) (ref8_group.F [c0]) := by
  unfold act_group.F act_group.t ref8_group.F ref8_group.t
  have e0 := of_is (op := 10) (l := [c0]) (m := m) 0 1 (by omega) (by simp)
  have q0 : (0 : Int) < ((0 + 1 : Nat) : Int) := by omega
  have qn : ¬ (1 : Int) < ((0 + 1 : Nat) : Int) := by omega
  have z0 : (0 : Int) < ((0 + 1 + 1 : Nat) : Int) := by omega
  have z1 : (1 : Int) < ((0 + 1 + 1 : Nat) : Int) := by omega
  have t0 : ¬ (3 : Int) > 3 := by omega
  have t1 : ¬ (3 : Int) < 1 := by omega
  simp only [List.length_cons, List.length_nil] at e0 ⊢
  simp only [show (10, [c0], m.1, m.2.1, m.2.2.1, m.2.2.2.1, m.2.2.2.2.1, m.2.2.2.2.2) = (10, [c0], m) from rfl, e0, rd0, if_pos q0, if_neg qn, rnumber_is h0, Option.bind_some]
  by_cases k0 : c0.f0 = 1
  rotate_left
  · obtain ⟨f, n⟩ := kf_no k0
    simp only [f, n, om_n, Option.getD_none, Option.isSome_none, bm_f]
    exact agree_no
  obtain ⟨v0, d0, w0, f0, n0, b0⟩ := kf_yes h0 k0
  have g0a : rd [v0, d0] 0 = v0 := rfl
  have g0b : rd [v0, d0] 1 = d0 := rfl
  simp only [f0, n0, w0, g0a, g0b, om_s, Option.getD_some, Option.isSome_some, bm_t, List.length_cons, List.length_nil, if_pos z0, if_pos z1]
  by_cases x : d0 = 3
  · subst x
    have s : wrap64 (0 + 3) ≤ 18 := by unfold wrap64; omega
    rw [if_pos rfl, if_pos s, if_neg t0, if_neg t1]
    have sf : wrap64 (0 + 3) ≤ 18 := by unfold wrap64; omega
    simp only [if_pos sf]
    exact fin_group _
  · rw [if_neg x]
    by_cases y : d0 < 3
    · have s : wrap64 (0 + d0) ≤ 18 := by unfold wrap64; omega
      rw [if_pos y, if_pos s, if_neg (show ¬ d0 > 3 by omega), if_neg (show ¬ d0 < 1 by omega)]
      have sf : wrap64 (0 + d0) ≤ 18 := by unfold wrap64; omega
      simp only [if_pos sf]
      exact fin_group _
    · rw [if_neg y, if_pos (show d0 > 3 by omega)]
      exact agree_no
theorem group2_agree (h0 : Kid c0) (h1 : Kid c1) : Agree (act_group.F (10, [c0, c1], m)) (ref8_group.F [c0, c1]) := by
  unfold act_group.F act_group.t ref8_group.F ref8_group.t
  have e0 := of_is (op := 10) (l := [c0, c1]) (m := m) 0 1 (by omega) (by simp)
  have e1 := of_is (op := 10) (l := [c0, c1]) (m := m) 1 1 (by omega) (by simp)
  have q0 : (0 : Int) < ((0 + 1 + 1 : Nat) : Int) := by omega
  have q1 : (1 : Int) < ((0 + 1 + 1 : Nat) : Int) := by omega
  have qn : ¬ (2 : Int) < ((0 + 1 + 1 : Nat) : Int) := by omega
  have z0 : (0 : Int) < ((0 + 1 + 1 : Nat) : Int) := by omega
  have z1 : (1 : Int) < ((0 + 1 + 1 : Nat) : Int) := by omega
  have t0 : ¬ (3 : Int) > 3 := by omega
  have t1 : ¬ (3 : Int) < 1 := by omega
  simp only [List.length_cons, List.length_nil] at e0 e1 ⊢
  simp only [show (10, [c0, c1], m.1, m.2.1, m.2.2.1, m.2.2.2.1, m.2.2.2.2.1, m.2.2.2.2.2) = (10, [c0, c1], m) from rfl, e0, e1, rd0, rd1, if_pos q0, if_pos q1, if_neg qn, rnumber_is h0, rnumber_is h1, Option.bind_some]
  by_cases k0 : c0.f0 = 1
  rotate_left
  · obtain ⟨f, n⟩ := kf_no k0
    simp only [f, n, om_n, Option.getD_none, Option.isSome_none, bm_f]
    exact agree_no
  obtain ⟨v0, d0, w0, f0, n0, b0⟩ := kf_yes h0 k0
  have g0a : rd [v0, d0] 0 = v0 := rfl
  have g0b : rd [v0, d0] 1 = d0 := rfl
  simp only [f0, n0, w0, g0a, g0b, om_s, Option.getD_some, Option.isSome_some, bm_t, List.length_cons, List.length_nil, if_pos z0, if_pos z1]
  by_cases x : d0 = 3
  · subst x
    have s : wrap64 (0 + 3) ≤ 18 := by unfold wrap64; omega
    rw [if_pos rfl, if_pos s, if_neg t0, if_neg t1]
    by_cases k1 : c1.f0 = 1
    rotate_left
    · obtain ⟨f, n⟩ := kf_no k1
      simp only [f, n, om_n, Option.getD_none, Option.isSome_none, bm_f]
      exact agree_no
    obtain ⟨v1, d1, w1, f1, n1, b1⟩ := kf_yes h1 k1
    have g1a : rd [v1, d1] 0 = v1 := rfl
    have g1b : rd [v1, d1] 1 = d1 := rfl
    simp only [f1, n1, w1, g1a, g1b, om_s, Option.getD_some, Option.isSome_some, bm_t, List.length_cons, List.length_nil, if_pos z0, if_pos z1]
    by_cases x1 : d1 = 3
    rotate_left
    · rw [if_neg x1]
      by_cases y : d1 > 3
      · rw [if_pos y]; exact agree_no
      · rw [if_neg y, if_neg x1]; exact agree_no
    subst x1
    have s1 : wrap64 (wrap64 (0 + 3) + 3) ≤ 18 := by unfold wrap64; omega
    rw [if_pos rfl, if_pos s1, if_neg t0, if_pos rfl, if_neg t1]
    have sf : wrap64 (wrap64 (0 + 3) + 3) ≤ 18 := by unfold wrap64; omega
    simp only [if_pos sf]
    exact fin_group _
  · rw [if_neg x]
    by_cases y : d0 < 3
    · have s : wrap64 (0 + d0) ≤ 18 := by unfold wrap64; omega
      rw [if_pos y, if_pos s, if_neg (show ¬ d0 > 3 by omega), if_neg (show ¬ d0 < 1 by omega)]
      by_cases k1 : c1.f0 = 1
      rotate_left
      · obtain ⟨f, n⟩ := kf_no k1
        simp only [f, n, om_n, Option.getD_none, Option.isSome_none, bm_f]
        exact agree_no
      obtain ⟨v1, d1, w1, f1, n1, b1⟩ := kf_yes h1 k1
      have g1a : rd [v1, d1] 0 = v1 := rfl
      have g1b : rd [v1, d1] 1 = d1 := rfl
      simp only [f1, n1, w1, g1a, g1b, om_s, Option.getD_some, Option.isSome_some, bm_t, List.length_cons, List.length_nil, if_pos z0, if_pos z1]
      by_cases x1 : d1 = 3
      rotate_left
      · rw [if_neg x1]
        by_cases y : d1 > 3
        · rw [if_pos y]; exact agree_no
        · rw [if_neg y, if_neg x1]; exact agree_no
      subst x1
      have s1 : wrap64 (wrap64 (0 + d0) + 3) ≤ 18 := by unfold wrap64; omega
      rw [if_pos rfl, if_pos s1, if_neg t0, if_pos rfl, if_neg t1]
      have sf : wrap64 (wrap64 (0 + d0) + 3) ≤ 18 := by unfold wrap64; omega
      simp only [if_pos sf]
      exact fin_group _
    · rw [if_neg y, if_pos (show d0 > 3 by omega)]
      exact agree_no
theorem group3_agree (h0 : Kid c0) (h1 : Kid c1) (h2 : Kid c2) : Agree (act_group.F (10, [c0, c1, c2], m)) (ref8_group.F [c0, c1, c2]) := by
  unfold act_group.F act_group.t ref8_group.F ref8_group.t
  have e0 := of_is (op := 10) (l := [c0, c1, c2]) (m := m) 0 1 (by omega) (by simp)
  have e1 := of_is (op := 10) (l := [c0, c1, c2]) (m := m) 1 1 (by omega) (by simp)
  have e2 := of_is (op := 10) (l := [c0, c1, c2]) (m := m) 2 1 (by omega) (by simp)
  have q0 : (0 : Int) < ((0 + 1 + 1 + 1 : Nat) : Int) := by omega
  have q1 : (1 : Int) < ((0 + 1 + 1 + 1 : Nat) : Int) := by omega
  have q2 : (2 : Int) < ((0 + 1 + 1 + 1 : Nat) : Int) := by omega
  have qn : ¬ (3 : Int) < ((0 + 1 + 1 + 1 : Nat) : Int) := by omega
  have z0 : (0 : Int) < ((0 + 1 + 1 : Nat) : Int) := by omega
  have z1 : (1 : Int) < ((0 + 1 + 1 : Nat) : Int) := by omega
  have t0 : ¬ (3 : Int) > 3 := by omega
  have t1 : ¬ (3 : Int) < 1 := by omega
  simp only [List.length_cons, List.length_nil] at e0 e1 e2 ⊢
  simp only [show (10, [c0, c1, c2], m.1, m.2.1, m.2.2.1, m.2.2.2.1, m.2.2.2.2.1, m.2.2.2.2.2) = (10, [c0, c1, c2], m) from rfl, e0, e1, e2, rd0, rd1, rd2, if_pos q0, if_pos q1, if_pos q2, if_neg qn, rnumber_is h0, rnumber_is h1, rnumber_is h2, Option.bind_some]
  by_cases k0 : c0.f0 = 1
  rotate_left
  · obtain ⟨f, n⟩ := kf_no k0
    simp only [f, n, om_n, Option.getD_none, Option.isSome_none, bm_f]
    exact agree_no
  obtain ⟨v0, d0, w0, f0, n0, b0⟩ := kf_yes h0 k0
  have g0a : rd [v0, d0] 0 = v0 := rfl
  have g0b : rd [v0, d0] 1 = d0 := rfl
  simp only [f0, n0, w0, g0a, g0b, om_s, Option.getD_some, Option.isSome_some, bm_t, List.length_cons, List.length_nil, if_pos z0, if_pos z1]
  by_cases x : d0 = 3
  · subst x
    have s : wrap64 (0 + 3) ≤ 18 := by unfold wrap64; omega
    rw [if_pos rfl, if_pos s, if_neg t0, if_neg t1]
    by_cases k1 : c1.f0 = 1
    rotate_left
    · obtain ⟨f, n⟩ := kf_no k1
      simp only [f, n, om_n, Option.getD_none, Option.isSome_none, bm_f]
      exact agree_no
    obtain ⟨v1, d1, w1, f1, n1, b1⟩ := kf_yes h1 k1
    have g1a : rd [v1, d1] 0 = v1 := rfl
    have g1b : rd [v1, d1] 1 = d1 := rfl
    simp only [f1, n1, w1, g1a, g1b, om_s, Option.getD_some, Option.isSome_some, bm_t, List.length_cons, List.length_nil, if_pos z0, if_pos z1]
    by_cases x1 : d1 = 3
    rotate_left
    · rw [if_neg x1]
      by_cases y : d1 > 3
      · rw [if_pos y]; exact agree_no
      · rw [if_neg y, if_neg x1]; exact agree_no
    subst x1
    have s1 : wrap64 (wrap64 (0 + 3) + 3) ≤ 18 := by unfold wrap64; omega
    rw [if_pos rfl, if_pos s1, if_neg t0, if_pos rfl, if_neg t1]
    by_cases k2 : c2.f0 = 1
    rotate_left
    · obtain ⟨f, n⟩ := kf_no k2
      simp only [f, n, om_n, Option.getD_none, Option.isSome_none, bm_f]
      exact agree_no
    obtain ⟨v2, d2, w2, f2, n2, b2⟩ := kf_yes h2 k2
    have g2a : rd [v2, d2] 0 = v2 := rfl
    have g2b : rd [v2, d2] 1 = d2 := rfl
    simp only [f2, n2, w2, g2a, g2b, om_s, Option.getD_some, Option.isSome_some, bm_t, List.length_cons, List.length_nil, if_pos z0, if_pos z1]
    by_cases x2 : d2 = 3
    rotate_left
    · rw [if_neg x2]
      by_cases y : d2 > 3
      · rw [if_pos y]; exact agree_no
      · rw [if_neg y, if_neg x2]; exact agree_no
    subst x2
    have s2 : wrap64 (wrap64 (wrap64 (0 + 3) + 3) + 3) ≤ 18 := by unfold wrap64; omega
    rw [if_pos rfl, if_pos s2, if_neg t0, if_pos rfl, if_neg t1]
    have sf : wrap64 (wrap64 (wrap64 (0 + 3) + 3) + 3) ≤ 18 := by unfold wrap64; omega
    simp only [if_pos sf]
    exact fin_group _
  · rw [if_neg x]
    by_cases y : d0 < 3
    · have s : wrap64 (0 + d0) ≤ 18 := by unfold wrap64; omega
      rw [if_pos y, if_pos s, if_neg (show ¬ d0 > 3 by omega), if_neg (show ¬ d0 < 1 by omega)]
      by_cases k1 : c1.f0 = 1
      rotate_left
      · obtain ⟨f, n⟩ := kf_no k1
        simp only [f, n, om_n, Option.getD_none, Option.isSome_none, bm_f]
        exact agree_no
      obtain ⟨v1, d1, w1, f1, n1, b1⟩ := kf_yes h1 k1
      have g1a : rd [v1, d1] 0 = v1 := rfl
      have g1b : rd [v1, d1] 1 = d1 := rfl
      simp only [f1, n1, w1, g1a, g1b, om_s, Option.getD_some, Option.isSome_some, bm_t, List.length_cons, List.length_nil, if_pos z0, if_pos z1]
      by_cases x1 : d1 = 3
      rotate_left
      · rw [if_neg x1]
        by_cases y : d1 > 3
        · rw [if_pos y]; exact agree_no
        · rw [if_neg y, if_neg x1]; exact agree_no
      subst x1
      have s1 : wrap64 (wrap64 (0 + d0) + 3) ≤ 18 := by unfold wrap64; omega
      rw [if_pos rfl, if_pos s1, if_neg t0, if_pos rfl, if_neg t1]
      by_cases k2 : c2.f0 = 1
      rotate_left
      · obtain ⟨f, n⟩ := kf_no k2
        simp only [f, n, om_n, Option.getD_none, Option.isSome_none, bm_f]
        exact agree_no
      obtain ⟨v2, d2, w2, f2, n2, b2⟩ := kf_yes h2 k2
      have g2a : rd [v2, d2] 0 = v2 := rfl
      have g2b : rd [v2, d2] 1 = d2 := rfl
      simp only [f2, n2, w2, g2a, g2b, om_s, Option.getD_some, Option.isSome_some, bm_t, List.length_cons, List.length_nil, if_pos z0, if_pos z1]
      by_cases x2 : d2 = 3
      rotate_left
      · rw [if_neg x2]
        by_cases y : d2 > 3
        · rw [if_pos y]; exact agree_no
        · rw [if_neg y, if_neg x2]; exact agree_no
      subst x2
      have s2 : wrap64 (wrap64 (wrap64 (0 + d0) + 3) + 3) ≤ 18 := by unfold wrap64; omega
      rw [if_pos rfl, if_pos s2, if_neg t0, if_pos rfl, if_neg t1]
      have sf : wrap64 (wrap64 (wrap64 (0 + d0) + 3) + 3) ≤ 18 := by unfold wrap64; omega
      simp only [if_pos sf]
      exact fin_group _
    · rw [if_neg y, if_pos (show d0 > 3 by omega)]
      exact agree_no
theorem group4_agree (h0 : Kid c0) (h1 : Kid c1) (h2 : Kid c2) (h3 : Kid c3) : Agree (act_group.F (10, [c0, c1, c2, c3], m)) (ref8_group.F [c0, c1, c2, c3]) := by
  unfold act_group.F act_group.t ref8_group.F ref8_group.t
  have e0 := of_is (op := 10) (l := [c0, c1, c2, c3]) (m := m) 0 1 (by omega) (by simp)
  have e1 := of_is (op := 10) (l := [c0, c1, c2, c3]) (m := m) 1 1 (by omega) (by simp)
  have e2 := of_is (op := 10) (l := [c0, c1, c2, c3]) (m := m) 2 1 (by omega) (by simp)
  have e3 := of_is (op := 10) (l := [c0, c1, c2, c3]) (m := m) 3 1 (by omega) (by simp)
  have q0 : (0 : Int) < ((0 + 1 + 1 + 1 + 1 : Nat) : Int) := by omega
  have q1 : (1 : Int) < ((0 + 1 + 1 + 1 + 1 : Nat) : Int) := by omega
  have q2 : (2 : Int) < ((0 + 1 + 1 + 1 + 1 : Nat) : Int) := by omega
  have q3 : (3 : Int) < ((0 + 1 + 1 + 1 + 1 : Nat) : Int) := by omega
  have qn : ¬ (4 : Int) < ((0 + 1 + 1 + 1 + 1 : Nat) : Int) := by omega
  have z0 : (0 : Int) < ((0 + 1 + 1 : Nat) : Int) := by omega
  have z1 : (1 : Int) < ((0 + 1 + 1 : Nat) : Int) := by omega
  have t0 : ¬ (3 : Int) > 3 := by omega
  have t1 : ¬ (3 : Int) < 1 := by omega
  simp only [List.length_cons, List.length_nil] at e0 e1 e2 e3 ⊢
  simp only [show (10, [c0, c1, c2, c3], m.1, m.2.1, m.2.2.1, m.2.2.2.1, m.2.2.2.2.1, m.2.2.2.2.2) = (10, [c0, c1, c2, c3], m) from rfl, e0, e1, e2, e3, rd0, rd1, rd2, rd3, if_pos q0, if_pos q1, if_pos q2, if_pos q3, if_neg qn, rnumber_is h0, rnumber_is h1, rnumber_is h2, rnumber_is h3, Option.bind_some]
  by_cases k0 : c0.f0 = 1
  rotate_left
  · obtain ⟨f, n⟩ := kf_no k0
    simp only [f, n, om_n, Option.getD_none, Option.isSome_none, bm_f]
    exact agree_no
  obtain ⟨v0, d0, w0, f0, n0, b0⟩ := kf_yes h0 k0
  have g0a : rd [v0, d0] 0 = v0 := rfl
  have g0b : rd [v0, d0] 1 = d0 := rfl
  simp only [f0, n0, w0, g0a, g0b, om_s, Option.getD_some, Option.isSome_some, bm_t, List.length_cons, List.length_nil, if_pos z0, if_pos z1]
  by_cases x : d0 = 3
  · subst x
    have s : wrap64 (0 + 3) ≤ 18 := by unfold wrap64; omega
    rw [if_pos rfl, if_pos s, if_neg t0, if_neg t1]
    by_cases k1 : c1.f0 = 1
    rotate_left
    · obtain ⟨f, n⟩ := kf_no k1
      simp only [f, n, om_n, Option.getD_none, Option.isSome_none, bm_f]
      exact agree_no
    obtain ⟨v1, d1, w1, f1, n1, b1⟩ := kf_yes h1 k1
    have g1a : rd [v1, d1] 0 = v1 := rfl
    have g1b : rd [v1, d1] 1 = d1 := rfl
    simp only [f1, n1, w1, g1a, g1b, om_s, Option.getD_some, Option.isSome_some, bm_t, List.length_cons, List.length_nil, if_pos z0, if_pos z1]
    by_cases x1 : d1 = 3
    rotate_left
    · rw [if_neg x1]
      by_cases y : d1 > 3
      · rw [if_pos y]; exact agree_no
      · rw [if_neg y, if_neg x1]; exact agree_no
    subst x1
    have s1 : wrap64 (wrap64 (0 + 3) + 3) ≤ 18 := by unfold wrap64; omega
    rw [if_pos rfl, if_pos s1, if_neg t0, if_pos rfl, if_neg t1]
    by_cases k2 : c2.f0 = 1
    rotate_left
    · obtain ⟨f, n⟩ := kf_no k2
      simp only [f, n, om_n, Option.getD_none, Option.isSome_none, bm_f]
      exact agree_no
    obtain ⟨v2, d2, w2, f2, n2, b2⟩ := kf_yes h2 k2
    have g2a : rd [v2, d2] 0 = v2 := rfl
    have g2b : rd [v2, d2] 1 = d2 := rfl
    simp only [f2, n2, w2, g2a, g2b, om_s, Option.getD_some, Option.isSome_some, bm_t, List.length_cons, List.length_nil, if_pos z0, if_pos z1]
    by_cases x2 : d2 = 3
    rotate_left
    · rw [if_neg x2]
      by_cases y : d2 > 3
      · rw [if_pos y]; exact agree_no
      · rw [if_neg y, if_neg x2]; exact agree_no
    subst x2
    have s2 : wrap64 (wrap64 (wrap64 (0 + 3) + 3) + 3) ≤ 18 := by unfold wrap64; omega
    rw [if_pos rfl, if_pos s2, if_neg t0, if_pos rfl, if_neg t1]
    by_cases k3 : c3.f0 = 1
    rotate_left
    · obtain ⟨f, n⟩ := kf_no k3
      simp only [f, n, om_n, Option.getD_none, Option.isSome_none, bm_f]
      exact agree_no
    obtain ⟨v3, d3, w3, f3, n3, b3⟩ := kf_yes h3 k3
    have g3a : rd [v3, d3] 0 = v3 := rfl
    have g3b : rd [v3, d3] 1 = d3 := rfl
    simp only [f3, n3, w3, g3a, g3b, om_s, Option.getD_some, Option.isSome_some, bm_t, List.length_cons, List.length_nil, if_pos z0, if_pos z1]
    by_cases x3 : d3 = 3
    rotate_left
    · rw [if_neg x3]
      by_cases y : d3 > 3
      · rw [if_pos y]; exact agree_no
      · rw [if_neg y, if_neg x3]; exact agree_no
    subst x3
    have s3 : wrap64 (wrap64 (wrap64 (wrap64 (0 + 3) + 3) + 3) + 3) ≤ 18 := by unfold wrap64; omega
    rw [if_pos rfl, if_pos s3, if_neg t0, if_pos rfl, if_neg t1]
    have sf : wrap64 (wrap64 (wrap64 (wrap64 (0 + 3) + 3) + 3) + 3) ≤ 18 := by unfold wrap64; omega
    simp only [if_pos sf]
    exact fin_group _
  · rw [if_neg x]
    by_cases y : d0 < 3
    · have s : wrap64 (0 + d0) ≤ 18 := by unfold wrap64; omega
      rw [if_pos y, if_pos s, if_neg (show ¬ d0 > 3 by omega), if_neg (show ¬ d0 < 1 by omega)]
      by_cases k1 : c1.f0 = 1
      rotate_left
      · obtain ⟨f, n⟩ := kf_no k1
        simp only [f, n, om_n, Option.getD_none, Option.isSome_none, bm_f]
        exact agree_no
      obtain ⟨v1, d1, w1, f1, n1, b1⟩ := kf_yes h1 k1
      have g1a : rd [v1, d1] 0 = v1 := rfl
      have g1b : rd [v1, d1] 1 = d1 := rfl
      simp only [f1, n1, w1, g1a, g1b, om_s, Option.getD_some, Option.isSome_some, bm_t, List.length_cons, List.length_nil, if_pos z0, if_pos z1]
      by_cases x1 : d1 = 3
      rotate_left
      · rw [if_neg x1]
        by_cases y : d1 > 3
        · rw [if_pos y]; exact agree_no
        · rw [if_neg y, if_neg x1]; exact agree_no
      subst x1
      have s1 : wrap64 (wrap64 (0 + d0) + 3) ≤ 18 := by unfold wrap64; omega
      rw [if_pos rfl, if_pos s1, if_neg t0, if_pos rfl, if_neg t1]
      by_cases k2 : c2.f0 = 1
      rotate_left
      · obtain ⟨f, n⟩ := kf_no k2
        simp only [f, n, om_n, Option.getD_none, Option.isSome_none, bm_f]
        exact agree_no
      obtain ⟨v2, d2, w2, f2, n2, b2⟩ := kf_yes h2 k2
      have g2a : rd [v2, d2] 0 = v2 := rfl
      have g2b : rd [v2, d2] 1 = d2 := rfl
      simp only [f2, n2, w2, g2a, g2b, om_s, Option.getD_some, Option.isSome_some, bm_t, List.length_cons, List.length_nil, if_pos z0, if_pos z1]
      by_cases x2 : d2 = 3
      rotate_left
      · rw [if_neg x2]
        by_cases y : d2 > 3
        · rw [if_pos y]; exact agree_no
        · rw [if_neg y, if_neg x2]; exact agree_no
      subst x2
      have s2 : wrap64 (wrap64 (wrap64 (0 + d0) + 3) + 3) ≤ 18 := by unfold wrap64; omega
      rw [if_pos rfl, if_pos s2, if_neg t0, if_pos rfl, if_neg t1]
      by_cases k3 : c3.f0 = 1
      rotate_left
      · obtain ⟨f, n⟩ := kf_no k3
        simp only [f, n, om_n, Option.getD_none, Option.isSome_none, bm_f]
        exact agree_no
      obtain ⟨v3, d3, w3, f3, n3, b3⟩ := kf_yes h3 k3
      have g3a : rd [v3, d3] 0 = v3 := rfl
      have g3b : rd [v3, d3] 1 = d3 := rfl
      simp only [f3, n3, w3, g3a, g3b, om_s, Option.getD_some, Option.isSome_some, bm_t, List.length_cons, List.length_nil, if_pos z0, if_pos z1]
      by_cases x3 : d3 = 3
      rotate_left
      · rw [if_neg x3]
        by_cases y : d3 > 3
        · rw [if_pos y]; exact agree_no
        · rw [if_neg y, if_neg x3]; exact agree_no
      subst x3
      have s3 : wrap64 (wrap64 (wrap64 (wrap64 (0 + d0) + 3) + 3) + 3) ≤ 18 := by unfold wrap64; omega
      rw [if_pos rfl, if_pos s3, if_neg t0, if_pos rfl, if_neg t1]
      have sf : wrap64 (wrap64 (wrap64 (wrap64 (0 + d0) + 3) + 3) + 3) ≤ 18 := by unfold wrap64; omega
      simp only [if_pos sf]
      exact fin_group _
    · rw [if_neg y, if_pos (show d0 > 3 by omega)]
      exact agree_no
theorem group5_agree (h0 : Kid c0) (h1 : Kid c1) (h2 : Kid c2) (h3 : Kid c3) (h4 : Kid c4) : Agree (act_group.F (10, [c0, c1, c2, c3, c4], m)) (ref8_group.F [c0, c1, c2, c3, c4]) := by
  unfold act_group.F act_group.t ref8_group.F ref8_group.t
  have e0 := of_is (op := 10) (l := [c0, c1, c2, c3, c4]) (m := m) 0 1 (by omega) (by simp)
  have e1 := of_is (op := 10) (l := [c0, c1, c2, c3, c4]) (m := m) 1 1 (by omega) (by simp)
  have e2 := of_is (op := 10) (l := [c0, c1, c2, c3, c4]) (m := m) 2 1 (by omega) (by simp)
  have e3 := of_is (op := 10) (l := [c0, c1, c2, c3, c4]) (m := m) 3 1 (by omega) (by simp)
  have e4 := of_is (op := 10) (l := [c0, c1, c2, c3, c4]) (m := m) 4 1 (by omega) (by simp)
  have q0 : (0 : Int) < ((0 + 1 + 1 + 1 + 1 + 1 : Nat) : Int) := by omega
  have q1 : (1 : Int) < ((0 + 1 + 1 + 1 + 1 + 1 : Nat) : Int) := by omega
  have q2 : (2 : Int) < ((0 + 1 + 1 + 1 + 1 + 1 : Nat) : Int) := by omega
  have q3 : (3 : Int) < ((0 + 1 + 1 + 1 + 1 + 1 : Nat) : Int) := by omega
  have q4 : (4 : Int) < ((0 + 1 + 1 + 1 + 1 + 1 : Nat) : Int) := by omega
  have qn : ¬ (5 : Int) < ((0 + 1 + 1 + 1 + 1 + 1 : Nat) : Int) := by omega
  have z0 : (0 : Int) < ((0 + 1 + 1 : Nat) : Int) := by omega
  have z1 : (1 : Int) < ((0 + 1 + 1 : Nat) : Int) := by omega
  have t0 : ¬ (3 : Int) > 3 := by omega
  have t1 : ¬ (3 : Int) < 1 := by omega
  simp only [List.length_cons, List.length_nil] at e0 e1 e2 e3 e4 ⊢
  simp only [show (10, [c0, c1, c2, c3, c4], m.1, m.2.1, m.2.2.1, m.2.2.2.1, m.2.2.2.2.1, m.2.2.2.2.2) = (10, [c0, c1, c2, c3, c4], m) from rfl, e0, e1, e2, e3, e4, rd0, rd1, rd2, rd3, rd4, if_pos q0, if_pos q1, if_pos q2, if_pos q3, if_pos q4, if_neg qn, rnumber_is h0, rnumber_is h1, rnumber_is h2, rnumber_is h3, rnumber_is h4, Option.bind_some]
  by_cases k0 : c0.f0 = 1
  rotate_left
  · obtain ⟨f, n⟩ := kf_no k0
    simp only [f, n, om_n, Option.getD_none, Option.isSome_none, bm_f]
    exact agree_no
  obtain ⟨v0, d0, w0, f0, n0, b0⟩ := kf_yes h0 k0
  have g0a : rd [v0, d0] 0 = v0 := rfl
  have g0b : rd [v0, d0] 1 = d0 := rfl
  simp only [f0, n0, w0, g0a, g0b, om_s, Option.getD_some, Option.isSome_some, bm_t, List.length_cons, List.length_nil, if_pos z0, if_pos z1]
  by_cases x : d0 = 3
  · subst x
    have s : wrap64 (0 + 3) ≤ 18 := by unfold wrap64; omega
    rw [if_pos rfl, if_pos s, if_neg t0, if_neg t1]
    by_cases k1 : c1.f0 = 1
    rotate_left
    · obtain ⟨f, n⟩ := kf_no k1
      simp only [f, n, om_n, Option.getD_none, Option.isSome_none, bm_f]
      exact agree_no
    obtain ⟨v1, d1, w1, f1, n1, b1⟩ := kf_yes h1 k1
    have g1a : rd [v1, d1] 0 = v1 := rfl
    have g1b : rd [v1, d1] 1 = d1 := rfl
    simp only [f1, n1, w1, g1a, g1b, om_s, Option.getD_some, Option.isSome_some, bm_t, List.length_cons, List.length_nil, if_pos z0, if_pos z1]
    by_cases x1 : d1 = 3
    rotate_left
    · rw [if_neg x1]
      by_cases y : d1 > 3
      · rw [if_pos y]; exact agree_no
      · rw [if_neg y, if_neg x1]; exact agree_no
    subst x1
    have s1 : wrap64 (wrap64 (0 + 3) + 3) ≤ 18 := by unfold wrap64; omega
    rw [if_pos rfl, if_pos s1, if_neg t0, if_pos rfl, if_neg t1]
    by_cases k2 : c2.f0 = 1
    rotate_left
    · obtain ⟨f, n⟩ := kf_no k2
      simp only [f, n, om_n, Option.getD_none, Option.isSome_none, bm_f]
      exact agree_no
    obtain ⟨v2, d2, w2, f2, n2, b2⟩ := kf_yes h2 k2
    have g2a : rd [v2, d2] 0 = v2 := rfl
    have g2b : rd [v2, d2] 1 = d2 := rfl
    simp only [f2, n2, w2, g2a, g2b, om_s, Option.getD_some, Option.isSome_some, bm_t, List.length_cons, List.length_nil, if_pos z0, if_pos z1]
    by_cases x2 : d2 = 3
    rotate_left
    · rw [if_neg x2]
      by_cases y : d2 > 3
      · rw [if_pos y]; exact agree_no
      · rw [if_neg y, if_neg x2]; exact agree_no
    subst x2
    have s2 : wrap64 (wrap64 (wrap64 (0 + 3) + 3) + 3) ≤ 18 := by unfold wrap64; omega
    rw [if_pos rfl, if_pos s2, if_neg t0, if_pos rfl, if_neg t1]
    by_cases k3 : c3.f0 = 1
    rotate_left
    · obtain ⟨f, n⟩ := kf_no k3
      simp only [f, n, om_n, Option.getD_none, Option.isSome_none, bm_f]
      exact agree_no
    obtain ⟨v3, d3, w3, f3, n3, b3⟩ := kf_yes h3 k3
    have g3a : rd [v3, d3] 0 = v3 := rfl
    have g3b : rd [v3, d3] 1 = d3 := rfl
    simp only [f3, n3, w3, g3a, g3b, om_s, Option.getD_some, Option.isSome_some, bm_t, List.length_cons, List.length_nil, if_pos z0, if_pos z1]
    by_cases x3 : d3 = 3
    rotate_left
    · rw [if_neg x3]
      by_cases y : d3 > 3
      · rw [if_pos y]; exact agree_no
      · rw [if_neg y, if_neg x3]; exact agree_no
    subst x3
    have s3 : wrap64 (wrap64 (wrap64 (wrap64 (0 + 3) + 3) + 3) + 3) ≤ 18 := by unfold wrap64; omega
    rw [if_pos rfl, if_pos s3, if_neg t0, if_pos rfl, if_neg t1]
    by_cases k4 : c4.f0 = 1
    rotate_left
    · obtain ⟨f, n⟩ := kf_no k4
      simp only [f, n, om_n, Option.getD_none, Option.isSome_none, bm_f]
      exact agree_no
    obtain ⟨v4, d4, w4, f4, n4, b4⟩ := kf_yes h4 k4
    have g4a : rd [v4, d4] 0 = v4 := rfl
    have g4b : rd [v4, d4] 1 = d4 := rfl
    simp only [f4, n4, w4, g4a, g4b, om_s, Option.getD_some, Option.isSome_some, bm_t, List.length_cons, List.length_nil, if_pos z0, if_pos z1]
    by_cases x4 : d4 = 3
    rotate_left
    · rw [if_neg x4]
      by_cases y : d4 > 3
      · rw [if_pos y]; exact agree_no
      · rw [if_neg y, if_neg x4]; exact agree_no
    subst x4
    have s4 : wrap64 (wrap64 (wrap64 (wrap64 (wrap64 (0 + 3) + 3) + 3) + 3) + 3) ≤ 18 := by unfold wrap64; omega
    rw [if_pos rfl, if_pos s4, if_neg t0, if_pos rfl, if_neg t1]
    have sf : wrap64 (wrap64 (wrap64 (wrap64 (wrap64 (0 + 3) + 3) + 3) + 3) + 3) ≤ 18 := by unfold wrap64; omega
    simp only [if_pos sf]
    exact fin_group _
  · rw [if_neg x]
    by_cases y : d0 < 3
    · have s : wrap64 (0 + d0) ≤ 18 := by unfold wrap64; omega
      rw [if_pos y, if_pos s, if_neg (show ¬ d0 > 3 by omega), if_neg (show ¬ d0 < 1 by omega)]
      by_cases k1 : c1.f0 = 1
      rotate_left
      · obtain ⟨f, n⟩ := kf_no k1
        simp only [f, n, om_n, Option.getD_none, Option.isSome_none, bm_f]
        exact agree_no
      obtain ⟨v1, d1, w1, f1, n1, b1⟩ := kf_yes h1 k1
      have g1a : rd [v1, d1] 0 = v1 := rfl
      have g1b : rd [v1, d1] 1 = d1 := rfl
      simp only [f1, n1, w1, g1a, g1b, om_s, Option.getD_some, Option.isSome_some, bm_t, List.length_cons, List.length_nil, if_pos z0, if_pos z1]
      by_cases x1 : d1 = 3
      rotate_left
      · rw [if_neg x1]
        by_cases y : d1 > 3
        · rw [if_pos y]; exact agree_no
        · rw [if_neg y, if_neg x1]; exact agree_no
      subst x1
      have s1 : wrap64 (wrap64 (0 + d0) + 3) ≤ 18 := by unfold wrap64; omega
      rw [if_pos rfl, if_pos s1, if_neg t0, if_pos rfl, if_neg t1]
      by_cases k2 : c2.f0 = 1
      rotate_left
      · obtain ⟨f, n⟩ := kf_no k2
        simp only [f, n, om_n, Option.getD_none, Option.isSome_none, bm_f]
        exact agree_no
      obtain ⟨v2, d2, w2, f2, n2, b2⟩ := kf_yes h2 k2
      have g2a : rd [v2, d2] 0 = v2 := rfl
      have g2b : rd [v2, d2] 1 = d2 := rfl
      simp only [f2, n2, w2, g2a, g2b, om_s, Option.getD_some, Option.isSome_some, bm_t, List.length_cons, List.length_nil, if_pos z0, if_pos z1]
      by_cases x2 : d2 = 3
      rotate_left
      · rw [if_neg x2]
        by_cases y : d2 > 3
        · rw [if_pos y]; exact agree_no
        · rw [if_neg y, if_neg x2]; exact agree_no
      subst x2
      have s2 : wrap64 (wrap64 (wrap64 (0 + d0) + 3) + 3) ≤ 18 := by unfold wrap64; omega
      rw [if_pos rfl, if_pos s2, if_neg t0, if_pos rfl, if_neg t1]
      by_cases k3 : c3.f0 = 1
      rotate_left
      · obtain ⟨f, n⟩ := kf_no k3
        simp only [f, n, om_n, Option.getD_none, Option.isSome_none, bm_f]
        exact agree_no
      obtain ⟨v3, d3, w3, f3, n3, b3⟩ := kf_yes h3 k3
      have g3a : rd [v3, d3] 0 = v3 := rfl
      have g3b : rd [v3, d3] 1 = d3 := rfl
      simp only [f3, n3, w3, g3a, g3b, om_s, Option.getD_some, Option.isSome_some, bm_t, List.length_cons, List.length_nil, if_pos z0, if_pos z1]
      by_cases x3 : d3 = 3
      rotate_left
      · rw [if_neg x3]
        by_cases y : d3 > 3
        · rw [if_pos y]; exact agree_no
        · rw [if_neg y, if_neg x3]; exact agree_no
      subst x3
      have s3 : wrap64 (wrap64 (wrap64 (wrap64 (0 + d0) + 3) + 3) + 3) ≤ 18 := by unfold wrap64; omega
      rw [if_pos rfl, if_pos s3, if_neg t0, if_pos rfl, if_neg t1]
      by_cases k4 : c4.f0 = 1
      rotate_left
      · obtain ⟨f, n⟩ := kf_no k4
        simp only [f, n, om_n, Option.getD_none, Option.isSome_none, bm_f]
        exact agree_no
      obtain ⟨v4, d4, w4, f4, n4, b4⟩ := kf_yes h4 k4
      have g4a : rd [v4, d4] 0 = v4 := rfl
      have g4b : rd [v4, d4] 1 = d4 := rfl
      simp only [f4, n4, w4, g4a, g4b, om_s, Option.getD_some, Option.isSome_some, bm_t, List.length_cons, List.length_nil, if_pos z0, if_pos z1]
      by_cases x4 : d4 = 3
      rotate_left
      · rw [if_neg x4]
        by_cases y : d4 > 3
        · rw [if_pos y]; exact agree_no
        · rw [if_neg y, if_neg x4]; exact agree_no
      subst x4
      have s4 : wrap64 (wrap64 (wrap64 (wrap64 (wrap64 (0 + d0) + 3) + 3) + 3) + 3) ≤ 18 := by unfold wrap64; omega
      rw [if_pos rfl, if_pos s4, if_neg t0, if_pos rfl, if_neg t1]
      have sf : wrap64 (wrap64 (wrap64 (wrap64 (wrap64 (0 + d0) + 3) + 3) + 3) + 3) ≤ 18 := by unfold wrap64; omega
      simp only [if_pos sf]
      exact fin_group _
    · rw [if_neg y, if_pos (show d0 > 3 by omega)]
      exact agree_no
theorem group6_agree (h0 : Kid c0) (h1 : Kid c1) (h2 : Kid c2) (h3 : Kid c3) (h4 : Kid c4) (h5 : Kid c5) : Agree (act_group.F (10, [c0, c1, c2, c3, c4, c5], m)) (ref8_group.F [c0, c1, c2, c3, c4, c5]) := by
  unfold act_group.F act_group.t ref8_group.F ref8_group.t
  have e0 := of_is (op := 10) (l := [c0, c1, c2, c3, c4, c5]) (m := m) 0 1 (by omega) (by simp)
  have e1 := of_is (op := 10) (l := [c0, c1, c2, c3, c4, c5]) (m := m) 1 1 (by omega) (by simp)
  have e2 := of_is (op := 10) (l := [c0, c1, c2, c3, c4, c5]) (m := m) 2 1 (by omega) (by simp)
  have e3 := of_is (op := 10) (l := [c0, c1, c2, c3, c4, c5]) (m := m) 3 1 (by omega) (by simp)
  have e4 := of_is (op := 10) (l := [c0, c1, c2, c3, c4, c5]) (m := m) 4 1 (by omega) (by simp)
  have e5 := of_is (op := 10) (l := [c0, c1, c2, c3, c4, c5]) (m := m) 5 1 (by omega) (by simp)
  have q0 : (0 : Int) < ((0 + 1 + 1 + 1 + 1 + 1 + 1 : Nat) : Int) := by omega
  have q1 : (1 : Int) < ((0 + 1 + 1 + 1 + 1 + 1 + 1 : Nat) : Int) := by omega
  have q2 : (2 : Int) < ((0 + 1 + 1 + 1 + 1 + 1 + 1 : Nat) : Int) := by omega
  have q3 : (3 : Int) < ((0 + 1 + 1 + 1 + 1 + 1 + 1 : Nat) : Int) := by omega
  have q4 : (4 : Int) < ((0 + 1 + 1 + 1 + 1 + 1 + 1 : Nat) : Int) := by omega
  have q5 : (5 : Int) < ((0 + 1 + 1 + 1 + 1 + 1 + 1 : Nat) : Int) := by omega
  have qn : ¬ (6 : Int) < ((0 + 1 + 1 + 1 + 1 + 1 + 1 : Nat) : Int) := by omega
  have z0 : (0 : Int) < ((0 + 1 + 1 : Nat) : Int) := by omega
  have z1 : (1 : Int) < ((0 + 1 + 1 : Nat) : Int) := by omega
  have t0 : ¬ (3 : Int) > 3 := by omega
  have t1 : ¬ (3 : Int) < 1 := by omega
  simp only [List.length_cons, List.length_nil] at e0 e1 e2 e3 e4 e5 ⊢
  simp only [show (10, [c0, c1, c2, c3, c4, c5], m.1, m.2.1, m.2.2.1, m.2.2.2.1, m.2.2.2.2.1, m.2.2.2.2.2) = (10, [c0, c1, c2, c3, c4, c5], m) from rfl, e0, e1, e2, e3, e4, e5, rd0, rd1, rd2, rd3, rd4, rd5, if_pos q0, if_pos q1, if_pos q2, if_pos q3, if_pos q4, if_pos q5, if_neg qn, rnumber_is h0, rnumber_is h1, rnumber_is h2, rnumber_is h3, rnumber_is h4, rnumber_is h5, Option.bind_some]
  by_cases k0 : c0.f0 = 1
  rotate_left
  · obtain ⟨f, n⟩ := kf_no k0
    simp only [f, n, om_n, Option.getD_none, Option.isSome_none, bm_f]
    exact agree_no
  obtain ⟨v0, d0, w0, f0, n0, b0⟩ := kf_yes h0 k0
  have g0a : rd [v0, d0] 0 = v0 := rfl
  have g0b : rd [v0, d0] 1 = d0 := rfl
  simp only [f0, n0, w0, g0a, g0b, om_s, Option.getD_some, Option.isSome_some, bm_t, List.length_cons, List.length_nil, if_pos z0, if_pos z1]
  by_cases x : d0 = 3
  · subst x
    have s : wrap64 (0 + 3) ≤ 18 := by unfold wrap64; omega
    rw [if_pos rfl, if_pos s, if_neg t0, if_neg t1]
    by_cases k1 : c1.f0 = 1
    rotate_left
    · obtain ⟨f, n⟩ := kf_no k1
      simp only [f, n, om_n, Option.getD_none, Option.isSome_none, bm_f]
      exact agree_no
    obtain ⟨v1, d1, w1, f1, n1, b1⟩ := kf_yes h1 k1
    have g1a : rd [v1, d1] 0 = v1 := rfl
    have g1b : rd [v1, d1] 1 = d1 := rfl
    simp only [f1, n1, w1, g1a, g1b, om_s, Option.getD_some, Option.isSome_some, bm_t, List.length_cons, List.length_nil, if_pos z0, if_pos z1]
    by_cases x1 : d1 = 3
    rotate_left
    · rw [if_neg x1]
      by_cases y : d1 > 3
      · rw [if_pos y]; exact agree_no
      · rw [if_neg y, if_neg x1]; exact agree_no
    subst x1
    have s1 : wrap64 (wrap64 (0 + 3) + 3) ≤ 18 := by unfold wrap64; omega
    rw [if_pos rfl, if_pos s1, if_neg t0, if_pos rfl, if_neg t1]
    by_cases k2 : c2.f0 = 1
    rotate_left
    · obtain ⟨f, n⟩ := kf_no k2
      simp only [f, n, om_n, Option.getD_none, Option.isSome_none, bm_f]
      exact agree_no
    obtain ⟨v2, d2, w2, f2, n2, b2⟩ := kf_yes h2 k2
    have g2a : rd [v2, d2] 0 = v2 := rfl
    have g2b : rd [v2, d2] 1 = d2 := rfl
    simp only [f2, n2, w2, g2a, g2b, om_s, Option.getD_some, Option.isSome_some, bm_t, List.length_cons, List.length_nil, if_pos z0, if_pos z1]
    by_cases x2 : d2 = 3
    rotate_left
    · rw [if_neg x2]
      by_cases y : d2 > 3
      · rw [if_pos y]; exact agree_no
      · rw [if_neg y, if_neg x2]; exact agree_no
    subst x2
    have s2 : wrap64 (wrap64 (wrap64 (0 + 3) + 3) + 3) ≤ 18 := by unfold wrap64; omega
    rw [if_pos rfl, if_pos s2, if_neg t0, if_pos rfl, if_neg t1]
    by_cases k3 : c3.f0 = 1
    rotate_left
    · obtain ⟨f, n⟩ := kf_no k3
      simp only [f, n, om_n, Option.getD_none, Option.isSome_none, bm_f]
      exact agree_no
    obtain ⟨v3, d3, w3, f3, n3, b3⟩ := kf_yes h3 k3
    have g3a : rd [v3, d3] 0 = v3 := rfl
    have g3b : rd [v3, d3] 1 = d3 := rfl
    simp only [f3, n3, w3, g3a, g3b, om_s, Option.getD_some, Option.isSome_some, bm_t, List.length_cons, List.length_nil, if_pos z0, if_pos z1]
    by_cases x3 : d3 = 3
    rotate_left
    · rw [if_neg x3]
      by_cases y : d3 > 3
      · rw [if_pos y]; exact agree_no
      · rw [if_neg y, if_neg x3]; exact agree_no
    subst x3
    have s3 : wrap64 (wrap64 (wrap64 (wrap64 (0 + 3) + 3) + 3) + 3) ≤ 18 := by unfold wrap64; omega
    rw [if_pos rfl, if_pos s3, if_neg t0, if_pos rfl, if_neg t1]
    by_cases k4 : c4.f0 = 1
    rotate_left
    · obtain ⟨f, n⟩ := kf_no k4
      simp only [f, n, om_n, Option.getD_none, Option.isSome_none, bm_f]
      exact agree_no
    obtain ⟨v4, d4, w4, f4, n4, b4⟩ := kf_yes h4 k4
    have g4a : rd [v4, d4] 0 = v4 := rfl
    have g4b : rd [v4, d4] 1 = d4 := rfl
    simp only [f4, n4, w4, g4a, g4b, om_s, Option.getD_some, Option.isSome_some, bm_t, List.length_cons, List.length_nil, if_pos z0, if_pos z1]
    by_cases x4 : d4 = 3
    rotate_left
    · rw [if_neg x4]
      by_cases y : d4 > 3
      · rw [if_pos y]; exact agree_no
      · rw [if_neg y, if_neg x4]; exact agree_no
    subst x4
    have s4 : wrap64 (wrap64 (wrap64 (wrap64 (wrap64 (0 + 3) + 3) + 3) + 3) + 3) ≤ 18 := by unfold wrap64; omega
    rw [if_pos rfl, if_pos s4, if_neg t0, if_pos rfl, if_neg t1]
    by_cases k5 : c5.f0 = 1
    rotate_left
    · obtain ⟨f, n⟩ := kf_no k5
      simp only [f, n, om_n, Option.getD_none, Option.isSome_none, bm_f]
      exact agree_no
    obtain ⟨v5, d5, w5, f5, n5, b5⟩ := kf_yes h5 k5
    have g5a : rd [v5, d5] 0 = v5 := rfl
    have g5b : rd [v5, d5] 1 = d5 := rfl
    simp only [f5, n5, w5, g5a, g5b, om_s, Option.getD_some, Option.isSome_some, bm_t, List.length_cons, List.length_nil, if_pos z0, if_pos z1]
    by_cases x5 : d5 = 3
    rotate_left
    · rw [if_neg x5]
      by_cases y : d5 > 3
      · rw [if_pos y]; exact agree_no
      · rw [if_neg y, if_neg x5]; exact agree_no
    subst x5
    have s5 : wrap64 (wrap64 (wrap64 (wrap64 (wrap64 (wrap64 (0 + 3) + 3) + 3) + 3) + 3) + 3) ≤ 18 := by unfold wrap64; omega
    rw [if_pos rfl, if_pos s5, if_neg t0, if_pos rfl, if_neg t1]
    have sf : wrap64 (wrap64 (wrap64 (wrap64 (wrap64 (wrap64 (0 + 3) + 3) + 3) + 3) + 3) + 3) ≤ 18 := by unfold wrap64; omega
    simp only [if_pos sf]
    exact fin_group _
  · rw [if_neg x]
    by_cases y : d0 < 3
    · have s : wrap64 (0 + d0) ≤ 18 := by unfold wrap64; omega
      rw [if_pos y, if_pos s, if_neg (show ¬ d0 > 3 by omega), if_neg (show ¬ d0 < 1 by omega)]
      by_cases k1 : c1.f0 = 1
      rotate_left
      · obtain ⟨f, n⟩ := kf_no k1
        simp only [f, n, om_n, Option.getD_none, Option.isSome_none, bm_f]
        exact agree_no
      obtain ⟨v1, d1, w1, f1, n1, b1⟩ := kf_yes h1 k1
      have g1a : rd [v1, d1] 0 = v1 := rfl
      have g1b : rd [v1, d1] 1 = d1 := rfl
      simp only [f1, n1, w1, g1a, g1b, om_s, Option.getD_some, Option.isSome_some, bm_t, List.length_cons, List.length_nil, if_pos z0, if_pos z1]
      by_cases x1 : d1 = 3
      rotate_left
      · rw [if_neg x1]
        by_cases y : d1 > 3
        · rw [if_pos y]; exact agree_no
        · rw [if_neg y, if_neg x1]; exact agree_no
      subst x1
      have s1 : wrap64 (wrap64 (0 + d0) + 3) ≤ 18 := by unfold wrap64; omega
      rw [if_pos rfl, if_pos s1, if_neg t0, if_pos rfl, if_neg t1]
      by_cases k2 : c2.f0 = 1
      rotate_left
      · obtain ⟨f, n⟩ := kf_no k2
        simp only [f, n, om_n, Option.getD_none, Option.isSome_none, bm_f]
        exact agree_no
      obtain ⟨v2, d2, w2, f2, n2, b2⟩ := kf_yes h2 k2
      have g2a : rd [v2, d2] 0 = v2 := rfl
      have g2b : rd [v2, d2] 1 = d2 := rfl
      simp only [f2, n2, w2, g2a, g2b, om_s, Option.getD_some, Option.isSome_some, bm_t, List.length_cons, List.length_nil, if_pos z0, if_pos z1]
      by_cases x2 : d2 = 3
      rotate_left
      · rw [if_neg x2]
        by_cases y : d2 > 3
        · rw [if_pos y]; exact agree_no
        · rw [if_neg y, if_neg x2]; exact agree_no
      subst x2
      have s2 : wrap64 (wrap64 (wrap64 (0 + d0) + 3) + 3) ≤ 18 := by unfold wrap64; omega
      rw [if_pos rfl, if_pos s2, if_neg t0, if_pos rfl, if_neg t1]
      by_cases k3 : c3.f0 = 1
      rotate_left
      · obtain ⟨f, n⟩ := kf_no k3
        simp only [f, n, om_n, Option.getD_none, Option.isSome_none, bm_f]
        exact agree_no
      obtain ⟨v3, d3, w3, f3, n3, b3⟩ := kf_yes h3 k3
      have g3a : rd [v3, d3] 0 = v3 := rfl
      have g3b : rd [v3, d3] 1 = d3 := rfl
      simp only [f3, n3, w3, g3a, g3b, om_s, Option.getD_some, Option.isSome_some, bm_t, List.length_cons, List.length_nil, if_pos z0, if_pos z1]
      by_cases x3 : d3 = 3
      rotate_left
      · rw [if_neg x3]
        by_cases y : d3 > 3
        · rw [if_pos y]; exact agree_no
        · rw [if_neg y, if_neg x3]; exact agree_no
      subst x3
      have s3 : wrap64 (wrap64 (wrap64 (wrap64 (0 + d0) + 3) + 3) + 3) ≤ 18 := by unfold wrap64; omega
      rw [if_pos rfl, if_pos s3, if_neg t0, if_pos rfl, if_neg t1]
      by_cases k4 : c4.f0 = 1
      rotate_left
      · obtain ⟨f, n⟩ := kf_no k4
        simp only [f, n, om_n, Option.getD_none, Option.isSome_none, bm_f]
        exact agree_no
      obtain ⟨v4, d4, w4, f4, n4, b4⟩ := kf_yes h4 k4
      have g4a : rd [v4, d4] 0 = v4 := rfl
      have g4b : rd [v4, d4] 1 = d4 := rfl
      simp only [f4, n4, w4, g4a, g4b, om_s, Option.getD_some, Option.isSome_some, bm_t, List.length_cons, List.length_nil, if_pos z0, if_pos z1]
      by_cases x4 : d4 = 3
      rotate_left
      · rw [if_neg x4]
        by_cases y : d4 > 3
        · rw [if_pos y]; exact agree_no
        · rw [if_neg y, if_neg x4]; exact agree_no
      subst x4
      have s4 : wrap64 (wrap64 (wrap64 (wrap64 (wrap64 (0 + d0) + 3) + 3) + 3) + 3) ≤ 18 := by unfold wrap64; omega
      rw [if_pos rfl, if_pos s4, if_neg t0, if_pos rfl, if_neg t1]
      by_cases k5 : c5.f0 = 1
      rotate_left
      · obtain ⟨f, n⟩ := kf_no k5
        simp only [f, n, om_n, Option.getD_none, Option.isSome_none, bm_f]
        exact agree_no
      obtain ⟨v5, d5, w5, f5, n5, b5⟩ := kf_yes h5 k5
      have g5a : rd [v5, d5] 0 = v5 := rfl
      have g5b : rd [v5, d5] 1 = d5 := rfl
      simp only [f5, n5, w5, g5a, g5b, om_s, Option.getD_some, Option.isSome_some, bm_t, List.length_cons, List.length_nil, if_pos z0, if_pos z1]
      by_cases x5 : d5 = 3
      rotate_left
      · rw [if_neg x5]
        by_cases y : d5 > 3
        · rw [if_pos y]; exact agree_no
        · rw [if_neg y, if_neg x5]; exact agree_no
      subst x5
      have s5 : wrap64 (wrap64 (wrap64 (wrap64 (wrap64 (wrap64 (0 + d0) + 3) + 3) + 3) + 3) + 3) ≤ 18 := by unfold wrap64; omega
      rw [if_pos rfl, if_pos s5, if_neg t0, if_pos rfl, if_neg t1]
      have sf : wrap64 (wrap64 (wrap64 (wrap64 (wrap64 (wrap64 (0 + d0) + 3) + 3) + 3) + 3) + 3) ≤ 18 := by unfold wrap64; omega
      simp only [if_pos sf]
      exact fin_group _
    · rw [if_neg y, if_pos (show d0 > 3 by omega)]
      exact agree_no
end
end Ev
end Go.Proofs.Ytldfljlklfhjkaa.PE
