/- What act makes and what the document makes, of children that are told: more methods. Conditions: as each states. -/
import Derived.Test.YtldfljlklfhjkaaPurF1
namespace Go.Proofs.Ytldfljlklfhjkaa.PE
open Go.RowKit Go.Proofs.YtldfljlklfhjkaaW.PrintWords Go.Proofs.YtldfljlklfhjkaaW.PrintLast Go.Proofs.YtldfljlklfhjkaaW.PrintMore
set_option linter.unusedVariables false
set_option linter.unusedSimpArgs false
namespace Ev
/-- A value that may be has as many numbers as its kind. -/
theorem right_len {c : S27} (h : act_Right.F c = some true) : act_fields.F c.f0 = some (c.f1.length : Int) := by
  unfold act_Right.F act_Right.t at h
  obtain ⟨n, hn, h⟩ := Option.bind_eq_some_iff.mp h
  by_cases e : (c.f1.length : Int) = n
  · rw [e]; exact hn
  · rw [if_neg e] at h; cases h
section
variable {c0 c1 c2 : S27} {m : Mom}
theorem len_of (h : Kid c0) (k n : Int) (hk : c0.f0 = k) (h4 : 4 ≤ k) (h10 : k ≤ 10) (hf : act_fields.F k = some n) : (c0.f1.length : Int) = n := by
  have := right_len (h.val (by omega) (by omega))
  rw [hk, hf] at this
  exact (Option.some.inj this).symm
theorem two_of {l : List Int} (h : (l.length : Int) = 2) : ∃ a b, l = [a, b] := by
  match l, h with
  | [a, b], _ => exact ⟨a, b, rfl⟩
theorem one_of' {l : List Int} (h : (l.length : Int) = 1) : ∃ a, l = [a] := by
  match l, h with
  | [a], _ => exact ⟨a, rfl⟩
/-- A decimal's sign turned. -/
theorem neg_agree (h0 : Kid c0) : Agree (act_negative.F (11, [c0], m)) (ref8_more.F (11, [c0])) := by
  unfold act_negative.F act_negative.t ref8_more.F ref8_more.t
  have e0 := of_is (op := 11) (l := [c0]) (m := m) 0 7 (by omega) (by simp)
  have q1 : (0 : Int) < ((0 + 1 : Nat) : Int) := by omega
  simp only [List.length_cons, List.length_nil] at e0 ⊢
  simp only [show (11, [c0], m.1, m.2.1, m.2.2.1, m.2.2.2.1, m.2.2.2.2.1, m.2.2.2.2.2) = (11, [c0], m) from rfl, e0, rd0, if_pos q1, Option.bind_some]
  rw [if_pos trivial]
  by_cases h : c0.f0 = 7
  · obtain ⟨p, q, e⟩ := two_of (len_of h0 7 2 h (by omega) (by omega) (by kernel_rfl))
    have g0 : rd [p, q] 0 = p := rfl
    have g1 : rd [p, q] 1 = q := rfl
    have z1 : (0 : Int) < ((0 + 1 + 1 : Nat) : Int) := by omega
    have z2 : (1 : Int) < ((0 + 1 + 1 : Nat) : Int) := by omega
    have z3 : ((0 + 1 + 1 : Nat) : Int) = 2 := by omega
    have k0 : kF 7 c0 = some c0.f1 := if_pos h
    rw [if_pos h, k0]
    simp only [om_s, e, g0, g1, List.length_cons, List.length_nil, if_pos z1, if_pos z2, if_pos z3, mk_is 7 [wrap64 (0 - p), q] (by simp), Option.bind_some]
    exact agree_yes
  · have k0 : kF 7 c0 = none := if_neg h
    rw [if_neg h, k0]
    exact agree_no
/-- Two of two kinds, one behind the other. -/
theorem both_is (h0 : Kid c0) (h1 : Kid c1) (a b k : Int) (a0 : 4 ≤ a) (a1 : a ≤ 10) (b0 : 4 ≤ b) (b1 : b ≤ 10) (l0 : c0.f1.length ≤ 1000) (l1 : c1.f1.length ≤ 1000) : ref8_both.F ([c0, c1], a, b, k) = some (if c0.f0 = a ∧ c1.f0 = b then (⟨k, c0.f1 ++ c1.f1⟩, true) else (⟨0, []⟩, false)) := by
  unfold ref8_both.F interlocutorref8_both.f
  have q1 : (0 : Int) < (([c0, c1] : List S27).length : Int) := by simp
  have q2 : (1 : Int) < (([c0, c1] : List S27).length : Int) := by simp
  have j1 : interlocutorref8_both.j0 100 [c0, c1] k true = some (0, [], false) := rfl
  simp only [rd0, rd1, if_pos q1, if_pos q2, j1]
  by_cases x0 : c0.f0 = a
  · by_cases x1 : c1.f0 = b
    · have r0 : interlocutorref8_Right.f 100 c0.f0 c0.f1 = some true := by
        obtain ⟨b', g1, g2⟩ := same c0
        rw [h0.val (by omega) (by omega)] at g1
        obtain rfl := Option.some.inj g1
        exact g2
      have r1 : interlocutorref8_Right.f 100 c1.f0 c1.f1 = some true := by
        obtain ⟨b', g1, g2⟩ := same c1
        rw [h1.val (by omega) (by omega)] at g1
        obtain rfl := Option.some.inj g1
        exact g2
      have j2 : interlocutorref8_both.j0 100 [c0, c1] k false = some (k, c0.f1 ++ c1.f1, true) := by
        show interlocutorref8_both.j0 (99 + 1) [c0, c1] k false = _
        rw [interlocutorref8_both.j0, if_neg (by decide)]
        simp only [Option.bind_some, if_pos q1, if_pos q2, rd0, rd1, List.nil_append, List.length_nil]
        rw [if_pos (by omega)]; exact if_pos (by omega)
      rw [if_pos x0, if_pos x1, r0, r1]
      simp only [Option.bind_some, if_true, Bool.not_true, j2, Option.map_some]
      rw [if_pos ⟨x0, x1⟩]
    · rw [if_pos x0, if_neg x1, if_neg (fun h => x1 h.2)]; rfl
  · rw [if_neg x0, if_neg (fun h => x0 h.1)]; rfl
theorem concat_is (f g : List Int) (hf : f.length ≤ 1000) (hg : g.length ≤ 1000) : slices_Concat.F [f, g] = some (f ++ g) := if_pos ⟨hf, hg⟩
theorem moment_agree (h0 : Kid c0) (h1 : Kid c1) (l0 : c0.f1.length ≤ 1000) (l1 : c1.f1.length ≤ 1000) : Agree (act_moment.F (5, [c0, c1], m)) (ref8_both.F ([c0, c1], 4, 5, 6)) := by
  rw [both_is h0 h1 4 5 6 (by omega) (by omega) (by omega) (by omega) l0 l1]
  unfold act_moment.F act_moment.t
  have e0 := of_is (op := 5) (l := [c0, c1]) (m := m) 0 4 (by omega) (by simp)
  have e1 := of_is (op := 5) (l := [c0, c1]) (m := m) 1 5 (by omega) (by simp)
  simp only at e0 e1 ⊢
  simp only [show (5, [c0, c1], m.1, m.2.1, m.2.2.1, m.2.2.2.1, m.2.2.2.2.1, m.2.2.2.2.2) = (5, [c0, c1], m) from rfl, e0, e1, rd0, rd1, Option.bind_some]
  by_cases x0 : c0.f0 = 4
  · by_cases x1 : c1.f0 = 5
    · rw [show kF 4 c0 = some c0.f1 from if_pos x0, show kF 5 c1 = some c1.f1 from if_pos x1, if_pos ⟨x0, x1⟩]
      simp only [om_s, concat_is _ _ l0 l1, mk_is 6 (c0.f1 ++ c1.f1) (by simp; omega), Option.bind_some]
      exact agree_yes
    · rw [show kF 4 c0 = some c0.f1 from if_pos x0, show kF 5 c1 = none from if_neg x1, if_neg (fun h => x1 h.2)]; exact agree_no
  · rw [show kF 4 c0 = none from if_neg x0, if_neg (fun h => x0 h.1)]; exact agree_no
theorem span_agree (h0 : Kid c0) (h1 : Kid c1) (l0 : c0.f1.length ≤ 1000) (l1 : c1.f1.length ≤ 1000) : Agree (act_span.F (15, [c0, c1], m)) (ref8_both.F ([c0, c1], 4, 4, 10)) := by
  rw [both_is h0 h1 4 4 10 (by omega) (by omega) (by omega) (by omega) l0 l1]
  unfold act_span.F act_span.t
  have e0 := of_is (op := 15) (l := [c0, c1]) (m := m) 0 4 (by omega) (by simp)
  have e1 := of_is (op := 15) (l := [c0, c1]) (m := m) 1 4 (by omega) (by simp)
  simp only at e0 e1 ⊢
  simp only [show (15, [c0, c1], m.1, m.2.1, m.2.2.1, m.2.2.2.1, m.2.2.2.2.1, m.2.2.2.2.2) = (15, [c0, c1], m) from rfl, e0, e1, rd0, rd1, Option.bind_some]
  by_cases x0 : c0.f0 = 4
  · by_cases x1 : c1.f0 = 4
    · rw [show kF 4 c0 = some c0.f1 from if_pos x0, show kF 4 c1 = some c1.f1 from if_pos x1, if_pos ⟨x0, x1⟩]
      simp only [om_s, concat_is _ _ l0 l1, mk_is 10 (c0.f1 ++ c1.f1) (by simp; omega), Option.bind_some]
      exact agree_yes
    · rw [show kF 4 c0 = some c0.f1 from if_pos x0, show kF 4 c1 = none from if_neg x1, if_neg (fun h => x1 h.2)]; exact agree_no
  · rw [show kF 4 c0 = none from if_neg x0, if_neg (fun h => x0 h.1)]; exact agree_no
/-- Durations, together. -/
theorem sum_agree (h0 : Kid c0) (h1 : Kid c1) (l0 : c0.f1.length ≤ 1000) (l1 : c1.f1.length ≤ 1000) : Agree (act_sum.F (14, [c0, c1], m)) (ref8_more.F (14, [c0, c1])) := by
  unfold act_sum.F act_sum.t ref8_more.F ref8_more.t
  have e0 := of_is (op := 14) (l := [c0, c1]) (m := m) 0 9 (by omega) (by simp)
  have e1 := of_is (op := 14) (l := [c0, c1]) (m := m) 1 9 (by omega) (by simp)
  simp only at e0 e1 ⊢
  simp only [show (14, [c0, c1], m.1, m.2.1, m.2.2.1, m.2.2.2.1, m.2.2.2.2.1, m.2.2.2.2.2) = (14, [c0, c1], m) from rfl, e0, e1, rd0, rd1, Option.bind_some, both_is h0 h1 9 9 9 (by omega) (by omega) (by omega) (by omega) l0 l1]
  rw [if_neg (by decide), if_neg (by decide), if_neg (by decide), if_pos trivial]
  by_cases x0 : c0.f0 = 9
  · obtain ⟨a, ea⟩ := one_of' (len_of h0 9 1 x0 (by omega) (by omega) (by kernel_rfl))
    have z0 : (0 : Int) < ((0 + 1 : Nat) : Int) := by omega
    by_cases x1 : c1.f0 = 9
    · obtain ⟨b, eb⟩ := one_of' (len_of h1 9 1 x1 (by omega) (by omega) (by kernel_rfl))
      have z1 : (0 : Int) < ((0 + 1 + 1 : Nat) : Int) := by omega
      have z2 : (1 : Int) < ((0 + 1 + 1 : Nat) : Int) := by omega
      have g0 : rd [a] 0 = a := rfl
      have g1 : rd [b] 0 = b := rfl
      have g2 : rd [a, b] 0 = a := rfl
      have g3 : rd [a, b] 1 = b := rfl
      rw [show kF 9 c0 = some c0.f1 from if_pos x0, show kF 9 c1 = some c1.f1 from if_pos x1, if_pos ⟨x0, x1⟩]
      simp only [om_s, ea, eb, List.cons_append, List.nil_append, List.length_cons, List.length_nil, if_pos z0, if_pos z1, if_pos z2, g0, g1, g2, g3, bm_t, mk_is 9 [wrap64 (a + b)] (by simp), Option.bind_some]
      exact agree_yes
    · rw [show kF 9 c0 = some c0.f1 from if_pos x0, show kF 9 c1 = none from if_neg x1, if_neg (fun h => x1 h.2)]
      simp only [om_s, om_n, ea, List.length_cons, List.length_nil, if_pos z0, bm_f, Option.bind_some]
      exact agree_no
  · rw [show kF 9 c0 = none from if_neg x0, if_neg (fun h => x0 h.1)]; exact agree_no
end
end Ev
end Go.Proofs.Ytldfljlklfhjkaa.PE
