/- What act makes and what the document makes, of children that are told: groups of three digits. Conditions: as each states. -/
import Derived.Test.YtldfljlklfhjkaaPurF5
namespace Go.Proofs.Ytldfljlklfhjkaa.PE
open Go.RowKit Go.Proofs.YtldfljlklfhjkaaW.PrintWords Go.Proofs.YtldfljlklfhjkaaW.PrintLast Go.Proofs.YtldfljlklfhjkaaW.PrintMore
set_option linter.unusedVariables false
set_option linter.unusedSimpArgs false
namespace Ev
theorem wrap_bd (x : Int) : -9223372036854775808 ≤ wrap64 x ∧ wrap64 x ≤ 9223372036854775807 := by unfold wrap64; omega
theorem kf_no {c : S27} (h : ¬ c.f0 = 1) : kF 1 c = none ∧ kN c = none := ⟨if_neg h, if_neg h⟩
theorem kf_yes {c : S27} (hk : Kid c) (h : c.f0 = 1) : ∃ v d, c.f1 = [v, d] ∧ kF 1 c = some [v, d] ∧ kN c = some v ∧ 1 ≤ d := by
  obtain ⟨v, d, e, _, _, d0, _⟩ := hk.num h
  refine ⟨v, d, e, ?_, ?_, d0⟩
  · unfold kF; rw [if_pos h, e]
  · unfold kN; rw [if_pos h, e]; rfl
theorem fin_group (n : Int) : Agree ((act_normed.F (wrap64 n, 0)).bind fun t => some (some ⟨t.f0, t.f1⟩)) ((ref8_whole.F (wrap64 n, 0)).bind fun t => some (⟨t.f0, t.f1⟩, true)) := by
  obtain ⟨e1, e2⟩ := whole_same (wrap64 n) (wrap_bd n).1 (wrap_bd n).2
  rw [e1, e2]
  exact agree_yes
section
variable {c0 c1 c2 c3 c4 c5 : S27} {m : Mom}
theorem rd3 {l : List S27} : rd_T27 (c0 :: c1 :: c2 :: c3 :: l) 3 = c3 := rfl
theorem rd4 {l : List S27} : rd_T27 (c0 :: c1 :: c2 :: c3 :: c4 :: l) 4 = c4 := rfl
theorem rd5 {l : List S27} : rd_T27 (c0 :: c1 :: c2 :: c3 :: c4 :: c5 :: l) 5 = c5 := rfl
theorem group2_agree (h0 : Kid c0) (h1 : Kid c1) : Agree (act_group.F (10, [c0, c1], m)) (ref8_group.F [c0, c1]) := by
  unfold act_group.F act_group.t ref8_group.F ref8_group.t
  have e0 := of_is (op := 10) (l := [c0, c1]) (m := m) 0 1 (by omega) (by simp)
  have e1 := of_is (op := 10) (l := [c0, c1]) (m := m) 1 1 (by omega) (by simp)
  have q0 : (0 : Int) < ((0 + 1 + 1 : Nat) : Int) := by omega
  have q1 : (1 : Int) < ((0 + 1 + 1 : Nat) : Int) := by omega
  have qn : ¬ (2 : Int) < ((0 + 1 + 1 : Nat) : Int) := by omega
  have z0 : (0 : Int) < ((0 + 1 + 1 : Nat) : Int) := by omega
  have z1 : (1 : Int) < ((0 + 1 + 1 : Nat) : Int) := by omega
  have t0 : ¬ (3 : Int) > 3 := by omega
  have t1 : ¬ (3 : Int) < 1 := by omega
  simp only [List.length_cons, List.length_nil] at e0 e1 ⊢
  simp only [show (10, [c0, c1], m.1, m.2.1, m.2.2.1, m.2.2.2.1, m.2.2.2.2.1, m.2.2.2.2.2) = (10, [c0, c1], m) from rfl, e0, e1, rd0, rd1, if_pos q0, if_pos q1, if_neg qn, rnumber_is h0, rnumber_is h1, Option.bind_some]
  by_cases k0 : c0.f0 = 1
  rotate_left
  · obtain ⟨f, n⟩ := kf_no k0
    simp only [f, n, om_n, Option.getD_none, Option.isSome_none, bm_f]
    exact agree_no
  obtain ⟨v0, d0, w0, f0, n0, b0⟩ := kf_yes h0 k0
  have g0a : rd [v0, d0] 0 = v0 := rfl
  have g0b : rd [v0, d0] 1 = d0 := rfl
  simp only [f0, n0, w0, g0a, g0b, om_s, Option.getD_some, Option.isSome_some, bm_t, List.length_cons, List.length_nil, if_pos z0, if_pos z1]
  by_cases x : d0 = 3
  · subst x
    have s : wrap64 (0 + 3) ≤ 18 := by unfold wrap64; omega
    rw [if_pos rfl, if_pos s, if_neg t0, if_neg t1]
    by_cases k1 : c1.f0 = 1
    rotate_left
    · obtain ⟨f, n⟩ := kf_no k1
      simp only [f, n, om_n, Option.getD_none, Option.isSome_none, bm_f]
      exact agree_no
    obtain ⟨v1, d1, w1, f1, n1, b1⟩ := kf_yes h1 k1
    have g1a : rd [v1, d1] 0 = v1 := rfl
    have g1b : rd [v1, d1] 1 = d1 := rfl
    simp only [f1, n1, w1, g1a, g1b, om_s, Option.getD_some, Option.isSome_some, bm_t, List.length_cons, List.length_nil, if_pos z0, if_pos z1]
    by_cases x1 : d1 = 3
    rotate_left
    · rw [if_neg x1]
      by_cases y : d1 > 3
      · rw [if_pos y]; exact agree_no
      · rw [if_neg y, if_neg x1]; exact agree_no
    subst x1
    have s1 : wrap64 (wrap64 (0 + 3) + 3) ≤ 18 := by unfold wrap64; omega
    rw [if_pos rfl, if_pos s1, if_neg t0, if_pos rfl, if_neg t1]
    have sf : wrap64 (wrap64 (0 + 3) + 3) ≤ 18 := by unfold wrap64; omega
    simp only [if_pos sf]
    exact fin_group _
  · rw [if_neg x]
    by_cases y : d0 < 3
    · have s : wrap64 (0 + d0) ≤ 18 := by unfold wrap64; omega
      rw [if_pos y, if_pos s, if_neg (show ¬ d0 > 3 by omega), if_neg (show ¬ d0 < 1 by omega)]
      by_cases k1 : c1.f0 = 1
      rotate_left
      · obtain ⟨f, n⟩ := kf_no k1
        simp only [f, n, om_n, Option.getD_none, Option.isSome_none, bm_f]
        exact agree_no
      obtain ⟨v1, d1, w1, f1, n1, b1⟩ := kf_yes h1 k1
      have g1a : rd [v1, d1] 0 = v1 := rfl
      have g1b : rd [v1, d1] 1 = d1 := rfl
      simp only [f1, n1, w1, g1a, g1b, om_s, Option.getD_some, Option.isSome_some, bm_t, List.length_cons, List.length_nil, if_pos z0, if_pos z1]
      by_cases x1 : d1 = 3
      rotate_left
      · rw [if_neg x1]
        by_cases y : d1 > 3
        · rw [if_pos y]; exact agree_no
        · rw [if_neg y, if_neg x1]; exact agree_no
      subst x1
      have s1 : wrap64 (wrap64 (0 + d0) + 3) ≤ 18 := by unfold wrap64; omega
      rw [if_pos rfl, if_pos s1, if_neg t0, if_pos rfl, if_neg t1]
      have sf : wrap64 (wrap64 (0 + d0) + 3) ≤ 18 := by unfold wrap64; omega
      simp only [if_pos sf]
      exact fin_group _
    · rw [if_neg y, if_pos (show d0 > 3 by omega)]
      exact agree_no
end
end Ev
end Go.Proofs.Ytldfljlklfhjkaa.PE
