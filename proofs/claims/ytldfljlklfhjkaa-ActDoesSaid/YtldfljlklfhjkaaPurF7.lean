/- What Do makes and what the document's Do makes is one. Conditions: that the children are told, as each states. -/
import Derived.Test.YtldfljlklfhjkaaPurF6
import Derived.Test.YtldfljlklfhjkaaPFt6
namespace Go.Proofs.Ytldfljlklfhjkaa.PE
open Go.RowKit Go.Proofs.YtldfljlklfhjkaaW.PrintWords Go.Proofs.YtldfljlklfhjkaaW.PrintLast Go.Proofs.YtldfljlklfhjkaaW.PrintMore
set_option linter.unusedVariables false
set_option linter.unusedSimpArgs false
namespace Ev
theorem known_is : law8_known.F () = some true := by kernel_rfl
theorem back (o : Option (S27 × Bool)) : (o.bind fun t => bm t.2 (some (⟨t.1.f0, t.1.f1⟩, true)) (some (⟨t.1.f0, t.1.f1⟩, false))) = o := by
  cases o with
  | none => rfl
  | some t =>
    obtain ⟨v, b⟩ := t
    cases b <;> rfl
/-- What Do says behind 'made'. -/
noncomputable def behind (o : Option (S27 × Bool)) : Option (S27 × Bool) := o.bind fun t => bm t.2 ((ref8_Right.F t.1).bind fun b => bm b (some (t.1, true)) (some (⟨0, []⟩, false))) (some (⟨0, []⟩, false))
/-- Both answer the same, and what is made may be. -/
def One (a r : Option (S27 × Bool)) : Prop := ∃ v b, a = some (v, b) ∧ r = some (v, b) ∧ (b = true → act_Right.F v = some true) ∧ (b = false → v = ⟨0, []⟩)
theorem do_both (op : Int) (P : List Int) (l : List S27) (m : Mom) (hop : op ≠ 0) (hP : P.length ≤ 1000000) (H : ∀ p ∈ P, 0 ≤ p ∧ p < (l.length : Int)) (href : ref8_Do.F (⟨op, P⟩, l, m) = behind (ref8_made.F (op, P.map (rd_T27 l), m))) (ha : Agree (Do.meth op (P.map (rd_T27 l)) m) (ref8_made.F (op, P.map (rd_T27 l), m))) :
    One (act_Do.F (⟨op, P⟩, l, m)) (ref8_Do.F (⟨op, P⟩, l, m)) := by
  have ea : act_Do.F (⟨op, P⟩, l, m) = (Do.meth op (P.map (rd_T27 l)) m).bind fun o => om o (some (⟨0, []⟩, false)) fun x => (act_Right.F x).bind fun b => bm b (some (x, true)) (some (⟨0, []⟩, false)) := by
    unfold act_Do.F
    simp only
    rw [if_pos ⟨hP, H⟩, if_neg hop]
  obtain ⟨x, v, is, e1, e2, h⟩ := ha
  rw [ea, href, e1, e2]
  unfold behind
  simp only [Option.bind_some]
  rcases h with ⟨rfl, rfl⟩ | ⟨rfl, rfl⟩ | ⟨y, rfl, hy, rfl⟩ | ⟨rfl, hv⟩
  · exact ⟨_, false, rfl, rfl, (fun h => Bool.noConfusion h), fun _ => rfl⟩
  · obtain ⟨b, h1, h2⟩ := same v
    simp only [om_s, bm_t, h1, h2, Option.bind_some]
    cases b with
    | true => exact ⟨_, true, rfl, rfl, fun _ => h1, fun h => Bool.noConfusion h⟩
    | false => exact ⟨_, false, rfl, rfl, (fun h => Bool.noConfusion h), fun _ => rfl⟩
  · simp only [om_s, bm_f, hy, Option.bind_some]
    exact ⟨_, false, rfl, rfl, (fun h => Bool.noConfusion h), fun _ => rfl⟩
  · simp only [om_n, hv, Option.bind_some, bm_f]
    cases is <;> exact ⟨_, false, rfl, rfl, (fun h => Bool.noConfusion h), fun _ => rfl⟩
/-- A value is like itself. -/
theorem cmp_self (v : S27) (h : v.f1.length ≤ 6) : ref10_Cmp.F (v, v) = some 0 := by
  obtain ⟨k, f⟩ := v
  match f, h with
  | [], _ => simp [ref10_Cmp.F, ref10_Cmp.t, order_same, rd]
  | [a], _ => simp [ref10_Cmp.F, ref10_Cmp.t, order_same, rd]
  | [a, b], _ => simp [ref10_Cmp.F, ref10_Cmp.t, order_same, rd]
  | [a, b, c], _ => simp [ref10_Cmp.F, ref10_Cmp.t, order_same, rd]
  | [a, b, c, d], _ => simp [ref10_Cmp.F, ref10_Cmp.t, order_same, rd]
  | [a, b, c, d, e], _ => simp [ref10_Cmp.F, ref10_Cmp.t, order_same, rd]
  | [a, b, c, d, e, g], _ => simp [ref10_Cmp.F, ref10_Cmp.t, order_same, rd]
  | _ :: _ :: _ :: _ :: _ :: _ :: _ :: _, h => simp at h
theorem right_small {v : S27} (h : act_Right.F v = some true) : v.f1.length ≤ 6 := by
  have h1 := right_len h
  unfold act_fields.F act_fields.t at h1
  by_cases c0 : v.f0 < 4
  · rw [if_pos c0] at h1
    have := Option.some.inj h1; omega
  rw [if_neg c0] at h1
  by_cases c1 : v.f0 > 10
  · rw [if_pos c1] at h1
    have := Option.some.inj h1; omega
  rw [if_neg c1] at h1
  rcases (show v.f0 = 4 ∨ v.f0 = 5 ∨ v.f0 = 6 ∨ v.f0 = 7 ∨ v.f0 = 8 ∨ v.f0 = 9 ∨ v.f0 = 10 by omega) with e | e | e | e | e | e | e
  · rw [e] at h1
    have := Option.some.inj ((show some (3 : Int) = _ from by kernel_rfl : some (3 : Int) = (if 0 ≤ wrap64 (4 - 4) then (if wrap64 (4 - 4) < 7 then some (rd [3, 3, 6, 2, 2, 1, 6] (wrap64 (4 - 4))) else none) else none)).trans h1); omega
  · rw [e] at h1
    have := Option.some.inj ((show some (3 : Int) = _ from by kernel_rfl : some (3 : Int) = (if 0 ≤ wrap64 (5 - 4) then (if wrap64 (5 - 4) < 7 then some (rd [3, 3, 6, 2, 2, 1, 6] (wrap64 (5 - 4))) else none) else none)).trans h1); omega
  · rw [e] at h1
    have := Option.some.inj ((show some (6 : Int) = _ from by kernel_rfl : some (6 : Int) = (if 0 ≤ wrap64 (6 - 4) then (if wrap64 (6 - 4) < 7 then some (rd [3, 3, 6, 2, 2, 1, 6] (wrap64 (6 - 4))) else none) else none)).trans h1); omega
  · rw [e] at h1
    have := Option.some.inj ((show some (2 : Int) = _ from by kernel_rfl : some (2 : Int) = (if 0 ≤ wrap64 (7 - 4) then (if wrap64 (7 - 4) < 7 then some (rd [3, 3, 6, 2, 2, 1, 6] (wrap64 (7 - 4))) else none) else none)).trans h1); omega
  · rw [e] at h1
    have := Option.some.inj ((show some (2 : Int) = _ from by kernel_rfl : some (2 : Int) = (if 0 ≤ wrap64 (8 - 4) then (if wrap64 (8 - 4) < 7 then some (rd [3, 3, 6, 2, 2, 1, 6] (wrap64 (8 - 4))) else none) else none)).trans h1); omega
  · rw [e] at h1
    have := Option.some.inj ((show some (1 : Int) = _ from by kernel_rfl : some (1 : Int) = (if 0 ≤ wrap64 (9 - 4) then (if wrap64 (9 - 4) < 7 then some (rd [3, 3, 6, 2, 2, 1, 6] (wrap64 (9 - 4))) else none) else none)).trans h1); omega
  · rw [e] at h1
    have := Option.some.inj ((show some (6 : Int) = _ from by kernel_rfl : some (6 : Int) = (if 0 ≤ wrap64 (10 - 4) then (if wrap64 (10 - 4) < 7 then some (rd [3, 3, 6, 2, 2, 1, 6] (wrap64 (10 - 4))) else none) else none)).trans h1); omega
theorem one_cmp {a r : Option (S27 × Bool)} (h : One a r) : ∃ v b, a = some (v, b) ∧ r = some (v, b) ∧ ref10_Cmp.F (v, v) = some 0 ∧ (b = true → act_Right.F v = some true) := by
  obtain ⟨v, b, h1, h2, h3, h4⟩ := h
  refine ⟨v, b, h1, h2, cmp_self v ?_, h3⟩
  cases b with
  | true => exact right_small (h3 rfl)
  | false => rw [h4 rfl]; exact Nat.zero_le _
section
variable {c0 c1 c2 c3 c4 c5 : S27} {m : Mom} {l : List S27}
theorem ref_do1 (op : Int) (p0 : Int) (l : List S27) (m : Mom) (hop : op ≠ 0) (H : ∀ p ∈ [p0], 0 ≤ p ∧ p < (l.length : Int)) : ref8_Do.F (⟨op, [p0]⟩, l, m) = behind (ref8_made.F (op, [p0].map (rd_T27 l), m)) := by
  unfold ref8_Do.F ref8_Do.t
  have g0 : rd [p0] 0 = p0 := rfl
  have a0 : 0 ≤ p0 := (H p0 (by simp)).1
  have b0 : p0 < (l.length : Int) := (H p0 (by simp)).2
  have q0 : (0 : Int) < ((0 + 1 : Nat) : Int) := by omega
  have qn : ¬ (1 : Int) < ((0 + 1 : Nat) : Int) := by omega
  simp only [List.length_cons, List.length_nil, g0, if_pos a0, if_pos b0, if_pos q0, if_neg qn, if_neg hop]
  rfl
theorem ref_do2 (op : Int) (p0 p1 : Int) (l : List S27) (m : Mom) (hop : op ≠ 0) (H : ∀ p ∈ [p0, p1], 0 ≤ p ∧ p < (l.length : Int)) : ref8_Do.F (⟨op, [p0, p1]⟩, l, m) = behind (ref8_made.F (op, [p0, p1].map (rd_T27 l), m)) := by
  unfold ref8_Do.F ref8_Do.t
  have g0 : rd [p0, p1] 0 = p0 := rfl
  have a0 : 0 ≤ p0 := (H p0 (by simp)).1
  have b0 : p0 < (l.length : Int) := (H p0 (by simp)).2
  have q0 : (0 : Int) < ((0 + 1 + 1 : Nat) : Int) := by omega
  have g1 : rd [p0, p1] 1 = p1 := rfl
  have a1 : 0 ≤ p1 := (H p1 (by simp)).1
  have b1 : p1 < (l.length : Int) := (H p1 (by simp)).2
  have q1 : (1 : Int) < ((0 + 1 + 1 : Nat) : Int) := by omega
  have qn : ¬ (2 : Int) < ((0 + 1 + 1 : Nat) : Int) := by omega
  simp only [List.length_cons, List.length_nil, g0, g1, if_pos a0, if_pos a1, if_pos b0, if_pos b1, if_pos q0, if_pos q1, if_neg qn, if_neg hop]
  rfl
theorem ref_do3 (op : Int) (p0 p1 p2 : Int) (l : List S27) (m : Mom) (hop : op ≠ 0) (H : ∀ p ∈ [p0, p1, p2], 0 ≤ p ∧ p < (l.length : Int)) : ref8_Do.F (⟨op, [p0, p1, p2]⟩, l, m) = behind (ref8_made.F (op, [p0, p1, p2].map (rd_T27 l), m)) := by
  unfold ref8_Do.F ref8_Do.t
  have g0 : rd [p0, p1, p2] 0 = p0 := rfl
  have a0 : 0 ≤ p0 := (H p0 (by simp)).1
  have b0 : p0 < (l.length : Int) := (H p0 (by simp)).2
  have q0 : (0 : Int) < ((0 + 1 + 1 + 1 : Nat) : Int) := by omega
  have g1 : rd [p0, p1, p2] 1 = p1 := rfl
  have a1 : 0 ≤ p1 := (H p1 (by simp)).1
  have b1 : p1 < (l.length : Int) := (H p1 (by simp)).2
  have q1 : (1 : Int) < ((0 + 1 + 1 + 1 : Nat) : Int) := by omega
  have g2 : rd [p0, p1, p2] 2 = p2 := rfl
  have a2 : 0 ≤ p2 := (H p2 (by simp)).1
  have b2 : p2 < (l.length : Int) := (H p2 (by simp)).2
  have q2 : (2 : Int) < ((0 + 1 + 1 + 1 : Nat) : Int) := by omega
  have qn : ¬ (3 : Int) < ((0 + 1 + 1 + 1 : Nat) : Int) := by omega
  simp only [List.length_cons, List.length_nil, g0, g1, g2, if_pos a0, if_pos a1, if_pos a2, if_pos b0, if_pos b1, if_pos b2, if_pos q0, if_pos q1, if_pos q2, if_neg qn, if_neg hop]
  rfl
theorem ref_do4 (op : Int) (p0 p1 p2 p3 : Int) (l : List S27) (m : Mom) (hop : op ≠ 0) (H : ∀ p ∈ [p0, p1, p2, p3], 0 ≤ p ∧ p < (l.length : Int)) : ref8_Do.F (⟨op, [p0, p1, p2, p3]⟩, l, m) = behind (ref8_made.F (op, [p0, p1, p2, p3].map (rd_T27 l), m)) := by
  unfold ref8_Do.F ref8_Do.t
  have g0 : rd [p0, p1, p2, p3] 0 = p0 := rfl
  have a0 : 0 ≤ p0 := (H p0 (by simp)).1
  have b0 : p0 < (l.length : Int) := (H p0 (by simp)).2
  have q0 : (0 : Int) < ((0 + 1 + 1 + 1 + 1 : Nat) : Int) := by omega
  have g1 : rd [p0, p1, p2, p3] 1 = p1 := rfl
  have a1 : 0 ≤ p1 := (H p1 (by simp)).1
  have b1 : p1 < (l.length : Int) := (H p1 (by simp)).2
  have q1 : (1 : Int) < ((0 + 1 + 1 + 1 + 1 : Nat) : Int) := by omega
  have g2 : rd [p0, p1, p2, p3] 2 = p2 := rfl
  have a2 : 0 ≤ p2 := (H p2 (by simp)).1
  have b2 : p2 < (l.length : Int) := (H p2 (by simp)).2
  have q2 : (2 : Int) < ((0 + 1 + 1 + 1 + 1 : Nat) : Int) := by omega
  have g3 : rd [p0, p1, p2, p3] 3 = p3 := rfl
  have a3 : 0 ≤ p3 := (H p3 (by simp)).1
  have b3 : p3 < (l.length : Int) := (H p3 (by simp)).2
  have q3 : (3 : Int) < ((0 + 1 + 1 + 1 + 1 : Nat) : Int) := by omega
  have qn : ¬ (4 : Int) < ((0 + 1 + 1 + 1 + 1 : Nat) : Int) := by omega
  simp only [List.length_cons, List.length_nil, g0, g1, g2, g3, if_pos a0, if_pos a1, if_pos a2, if_pos a3, if_pos b0, if_pos b1, if_pos b2, if_pos b3, if_pos q0, if_pos q1, if_pos q2, if_pos q3, if_neg qn, if_neg hop]
  rfl
theorem ref_do5 (op : Int) (p0 p1 p2 p3 p4 : Int) (l : List S27) (m : Mom) (hop : op ≠ 0) (H : ∀ p ∈ [p0, p1, p2, p3, p4], 0 ≤ p ∧ p < (l.length : Int)) : ref8_Do.F (⟨op, [p0, p1, p2, p3, p4]⟩, l, m) = behind (ref8_made.F (op, [p0, p1, p2, p3, p4].map (rd_T27 l), m)) := by
  unfold ref8_Do.F ref8_Do.t
  have g0 : rd [p0, p1, p2, p3, p4] 0 = p0 := rfl
  have a0 : 0 ≤ p0 := (H p0 (by simp)).1
  have b0 : p0 < (l.length : Int) := (H p0 (by simp)).2
  have q0 : (0 : Int) < ((0 + 1 + 1 + 1 + 1 + 1 : Nat) : Int) := by omega
  have g1 : rd [p0, p1, p2, p3, p4] 1 = p1 := rfl
  have a1 : 0 ≤ p1 := (H p1 (by simp)).1
  have b1 : p1 < (l.length : Int) := (H p1 (by simp)).2
  have q1 : (1 : Int) < ((0 + 1 + 1 + 1 + 1 + 1 : Nat) : Int) := by omega
  have g2 : rd [p0, p1, p2, p3, p4] 2 = p2 := rfl
  have a2 : 0 ≤ p2 := (H p2 (by simp)).1
  have b2 : p2 < (l.length : Int) := (H p2 (by simp)).2
  have q2 : (2 : Int) < ((0 + 1 + 1 + 1 + 1 + 1 : Nat) : Int) := by omega
  have g3 : rd [p0, p1, p2, p3, p4] 3 = p3 := rfl
  have a3 : 0 ≤ p3 := (H p3 (by simp)).1
  have b3 : p3 < (l.length : Int) := (H p3 (by simp)).2
  have q3 : (3 : Int) < ((0 + 1 + 1 + 1 + 1 + 1 : Nat) : Int) := by omega
  have g4 : rd [p0, p1, p2, p3, p4] 4 = p4 := rfl
  have a4 : 0 ≤ p4 := (H p4 (by simp)).1
  have b4 : p4 < (l.length : Int) := (H p4 (by simp)).2
  have q4 : (4 : Int) < ((0 + 1 + 1 + 1 + 1 + 1 : Nat) : Int) := by omega
  have qn : ¬ (5 : Int) < ((0 + 1 + 1 + 1 + 1 + 1 : Nat) : Int) := by omega
  simp only [List.length_cons, List.length_nil, g0, g1, g2, g3, g4, if_pos a0, if_pos a1, if_pos a2, if_pos a3, if_pos a4, if_pos b0, if_pos b1, if_pos b2, if_pos b3, if_pos b4, if_pos q0, if_pos q1, if_pos q2, if_pos q3, if_pos q4, if_neg qn, if_neg hop]
  rfl
theorem ref_do6 (op : Int) (p0 p1 p2 p3 p4 p5 : Int) (l : List S27) (m : Mom) (hop : op ≠ 0) (H : ∀ p ∈ [p0, p1, p2, p3, p4, p5], 0 ≤ p ∧ p < (l.length : Int)) : ref8_Do.F (⟨op, [p0, p1, p2, p3, p4, p5]⟩, l, m) = behind (ref8_made.F (op, [p0, p1, p2, p3, p4, p5].map (rd_T27 l), m)) := by
  unfold ref8_Do.F ref8_Do.t
  have g0 : rd [p0, p1, p2, p3, p4, p5] 0 = p0 := rfl
  have a0 : 0 ≤ p0 := (H p0 (by simp)).1
  have b0 : p0 < (l.length : Int) := (H p0 (by simp)).2
  have q0 : (0 : Int) < ((0 + 1 + 1 + 1 + 1 + 1 + 1 : Nat) : Int) := by omega
  have g1 : rd [p0, p1, p2, p3, p4, p5] 1 = p1 := rfl
  have a1 : 0 ≤ p1 := (H p1 (by simp)).1
  have b1 : p1 < (l.length : Int) := (H p1 (by simp)).2
  have q1 : (1 : Int) < ((0 + 1 + 1 + 1 + 1 + 1 + 1 : Nat) : Int) := by omega
  have g2 : rd [p0, p1, p2, p3, p4, p5] 2 = p2 := rfl
  have a2 : 0 ≤ p2 := (H p2 (by simp)).1
  have b2 : p2 < (l.length : Int) := (H p2 (by simp)).2
  have q2 : (2 : Int) < ((0 + 1 + 1 + 1 + 1 + 1 + 1 : Nat) : Int) := by omega
  have g3 : rd [p0, p1, p2, p3, p4, p5] 3 = p3 := rfl
  have a3 : 0 ≤ p3 := (H p3 (by simp)).1
  have b3 : p3 < (l.length : Int) := (H p3 (by simp)).2
  have q3 : (3 : Int) < ((0 + 1 + 1 + 1 + 1 + 1 + 1 : Nat) : Int) := by omega
  have g4 : rd [p0, p1, p2, p3, p4, p5] 4 = p4 := rfl
  have a4 : 0 ≤ p4 := (H p4 (by simp)).1
  have b4 : p4 < (l.length : Int) := (H p4 (by simp)).2
  have q4 : (4 : Int) < ((0 + 1 + 1 + 1 + 1 + 1 + 1 : Nat) : Int) := by omega
  have g5 : rd [p0, p1, p2, p3, p4, p5] 5 = p5 := rfl
  have a5 : 0 ≤ p5 := (H p5 (by simp)).1
  have b5 : p5 < (l.length : Int) := (H p5 (by simp)).2
  have q5 : (5 : Int) < ((0 + 1 + 1 + 1 + 1 + 1 + 1 : Nat) : Int) := by omega
  have qn : ¬ (6 : Int) < ((0 + 1 + 1 + 1 + 1 + 1 + 1 : Nat) : Int) := by omega
  simp only [List.length_cons, List.length_nil, g0, g1, g2, g3, g4, g5, if_pos a0, if_pos a1, if_pos a2, if_pos a3, if_pos a4, if_pos a5, if_pos b0, if_pos b1, if_pos b2, if_pos b3, if_pos b4, if_pos b5, if_pos q0, if_pos q1, if_pos q2, if_pos q3, if_pos q4, if_pos q5, if_neg qn, if_neg hop]
  rfl
theorem made1 (h0 : Kid c0) (h1 : Kid c1) (h2 : Kid c2) (y0 : 1 ≤ m.1) (y1 : m.1 ≤ 9999) : Agree (Do.meth 1 [c0, c1, c2] m) (ref8_made.F (1, [c0, c1, c2], m)) := by
  rw [show Do.meth 1 [c0, c1, c2] m = act_date.F (1, [c0, c1, c2], m) from rfl]
  have e : ref8_made.F (1, [c0, c1, c2], m) = ref8_date.F ([c0, c1, c2], m) := by
    unfold ref8_made.F ref8_made.t
    simp only
    rw [if_pos trivial]
    exact back _
  rw [e]
  exact date_agree h0 h1 h2 y0 y1
theorem made2 (h0 : Kid c0) (h1 : Kid c1) : Agree (Do.meth 2 [c0, c1] m) (ref8_made.F (2, [c0, c1], m)) := by
  rw [show Do.meth 2 [c0, c1] m = act_this.F (2, [c0, c1], m) from rfl]
  have e : ref8_made.F (2, [c0, c1], m) = ref8_date.F ([c0, c1], m) := by
    unfold ref8_made.F ref8_made.t
    simp only
    rw [if_neg (show ¬ (2 : Int) = 1 by decide), if_pos trivial]
    exact back _
  rw [e]
  exact this_agree h0 h1
theorem made3a (h0 : Kid c0) (h1 : Kid c1) : Agree (Do.meth 3 [c0, c1] m) (ref8_made.F (3, [c0, c1], m)) := by
  rw [show Do.meth 3 [c0, c1] m = act_mtime.F (3, [c0, c1], m) from rfl]
  have e : ref8_made.F (3, [c0, c1], m) = ref8_clock.F [c0, c1] := by
    unfold ref8_made.F ref8_made.t
    simp only
    rw [if_neg (show ¬ (3 : Int) = 1 by decide), if_neg (show ¬ (3 : Int) = 2 by decide), if_pos trivial]
    exact back _
  rw [e]
  exact time2_agree h0 h1
theorem made3b (h0 : Kid c0) (h1 : Kid c1) (h2 : Kid c2) : Agree (Do.meth 3 [c0, c1, c2] m) (ref8_made.F (3, [c0, c1, c2], m)) := by
  rw [show Do.meth 3 [c0, c1, c2] m = act_mtime.F (3, [c0, c1, c2], m) from rfl]
  have e : ref8_made.F (3, [c0, c1, c2], m) = ref8_clock.F [c0, c1, c2] := by
    unfold ref8_made.F ref8_made.t
    simp only
    rw [if_neg (show ¬ (3 : Int) = 1 by decide), if_neg (show ¬ (3 : Int) = 2 by decide), if_pos trivial]
    exact back _
  rw [e]
  exact time3_agree h0 h1 h2
theorem made4a (h0 : Kid c0) (h1 : Kid c1) : Agree (Do.meth 4 [c0, c1] m) (ref8_made.F (4, [c0, c1], m)) := by
  rw [show Do.meth 4 [c0, c1] m = act_half.F (4, [c0, c1], m) from rfl]
  have e : ref8_made.F (4, [c0, c1], m) = ref8_halved.F [c0, c1] := by
    unfold ref8_made.F ref8_made.t
    simp only
    rw [if_neg (show ¬ (4 : Int) = 1 by decide), if_neg (show ¬ (4 : Int) = 2 by decide), if_neg (show ¬ (4 : Int) = 3 by decide), if_pos trivial]
    exact back _
  rw [e]
  exact half2_agree h0 h1
theorem made4b (h0 : Kid c0) (h1 : Kid c1) (h2 : Kid c2) : Agree (Do.meth 4 [c0, c1, c2] m) (ref8_made.F (4, [c0, c1, c2], m)) := by
  rw [show Do.meth 4 [c0, c1, c2] m = act_half.F (4, [c0, c1, c2], m) from rfl]
  have e : ref8_made.F (4, [c0, c1, c2], m) = ref8_halved.F [c0, c1, c2] := by
    unfold ref8_made.F ref8_made.t
    simp only
    rw [if_neg (show ¬ (4 : Int) = 1 by decide), if_neg (show ¬ (4 : Int) = 2 by decide), if_neg (show ¬ (4 : Int) = 3 by decide), if_pos trivial]
    exact back _
  rw [e]
  exact half3_agree h0 h1 h2
theorem made5 (h0 : Kid c0) (h1 : Kid c1) : Agree (Do.meth 5 [c0, c1] m) (ref8_made.F (5, [c0, c1], m)) := by
  rw [show Do.meth 5 [c0, c1] m = act_moment.F (5, [c0, c1], m) from rfl]
  have e : ref8_made.F (5, [c0, c1], m) = ref8_both.F ([c0, c1], 4, 5, 6) := by
    unfold ref8_made.F ref8_made.t
    simp only
    rw [if_neg (show ¬ (5 : Int) = 1 by decide), if_neg (show ¬ (5 : Int) = 2 by decide), if_neg (show ¬ (5 : Int) = 3 by decide), if_neg (show ¬ (5 : Int) = 4 by decide), if_pos trivial]
    exact back _
  rw [e]
  exact moment_agree h0 h1 (Nat.le_trans h0.len (by omega)) (Nat.le_trans h1.len (by omega))
theorem made6 (h0 : Kid c0) (h1 : Kid c1) (h2 : Kid c2) (y0 : 1 ≤ m.1) (y1 : m.1 ≤ 9999) (v : Valid m.1 m.2.1 m.2.2.1) : Agree (Do.meth 6 [c0, c1, c2] m) (ref8_made.F (6, [c0, c1, c2], m)) := by
  rw [show Do.meth 6 [c0, c1, c2] m = act_relative.F (6, [c0, c1, c2], m) from rfl]
  have e : ref8_made.F (6, [c0, c1, c2], m) = ref8_moved.F ([c0, c1, c2], m) := by
    unfold ref8_made.F ref8_made.t
    simp only
    rw [if_neg (show ¬ (6 : Int) = 1 by decide), if_neg (show ¬ (6 : Int) = 2 by decide), if_neg (show ¬ (6 : Int) = 3 by decide), if_neg (show ¬ (6 : Int) = 4 by decide), if_neg (show ¬ (6 : Int) = 5 by decide), if_pos trivial]
    exact back _
  rw [e]
  exact rel_agree h0 h1 h2 ⟨by omega, by omega⟩ v
theorem made7 (h0 : Kid c0) (y0 : 1 ≤ m.1) (y1 : m.1 ≤ 9999) (v : Valid m.1 m.2.1 m.2.2.1) : Agree (Do.meth 7 [c0] m) (ref8_made.F (7, [c0], m)) := by
  rw [show Do.meth 7 [c0] m = act_next.F (7, [c0], m) from rfl]
  have e : ref8_made.F (7, [c0], m) = ref8_next.F ([c0], m) := by
    unfold ref8_made.F ref8_made.t
    simp only
    rw [if_neg (show ¬ (7 : Int) = 1 by decide), if_neg (show ¬ (7 : Int) = 2 by decide), if_neg (show ¬ (7 : Int) = 3 by decide), if_neg (show ¬ (7 : Int) = 4 by decide), if_neg (show ¬ (7 : Int) = 5 by decide), if_neg (show ¬ (7 : Int) = 6 by decide), if_pos trivial]
    exact back _
  rw [e]
  exact next_agree h0 y0 y1 v
theorem made8 (h0 : Kid c0) : Agree (Do.meth 8 [c0] m) (ref8_made.F (8, [c0], m)) := by
  rw [show Do.meth 8 [c0] m = act_whole.F (8, [c0], m) from rfl]
  exact whole_agree h0
theorem made9 (h0 : Kid c0) (h1 : Kid c1) : Agree (Do.meth 9 [c0, c1] m) (ref8_made.F (9, [c0, c1], m)) := by
  rw [show Do.meth 9 [c0, c1] m = act_point.F (9, [c0, c1], m) from rfl]
  have e : ref8_made.F (9, [c0, c1], m) = ref8_point.F [c0, c1] := by
    unfold ref8_made.F ref8_made.t
    simp only
    rw [if_neg (show ¬ (9 : Int) = 1 by decide), if_neg (show ¬ (9 : Int) = 2 by decide), if_neg (show ¬ (9 : Int) = 3 by decide), if_neg (show ¬ (9 : Int) = 4 by decide), if_neg (show ¬ (9 : Int) = 5 by decide), if_neg (show ¬ (9 : Int) = 6 by decide), if_neg (show ¬ (9 : Int) = 7 by decide), if_neg (show ¬ (9 : Int) = 8 by decide), if_pos trivial]
    exact back _
  rw [e]
  exact point_agree h0 h1
theorem made10_1 (h0 : Kid c0) : Agree (Do.meth 10 [c0] m) (ref8_made.F (10, [c0], m)) := by
  rw [show Do.meth 10 [c0] m = act_group.F (10, [c0], m) from rfl]
  have e : ref8_made.F (10, [c0], m) = ref8_group.F [c0] := by
    unfold ref8_made.F ref8_made.t
    simp only
    rw [if_neg (show ¬ (10 : Int) = 1 by decide), if_neg (show ¬ (10 : Int) = 2 by decide), if_neg (show ¬ (10 : Int) = 3 by decide), if_neg (show ¬ (10 : Int) = 4 by decide), if_neg (show ¬ (10 : Int) = 5 by decide), if_neg (show ¬ (10 : Int) = 6 by decide), if_neg (show ¬ (10 : Int) = 7 by decide), if_neg (show ¬ (10 : Int) = 8 by decide), if_neg (show ¬ (10 : Int) = 9 by decide), if_pos trivial]
    exact back _
  rw [e]
  exact group1_agree h0
theorem made10_2 (h0 : Kid c0) (h1 : Kid c1) : Agree (Do.meth 10 [c0, c1] m) (ref8_made.F (10, [c0, c1], m)) := by
  rw [show Do.meth 10 [c0, c1] m = act_group.F (10, [c0, c1], m) from rfl]
  have e : ref8_made.F (10, [c0, c1], m) = ref8_group.F [c0, c1] := by
    unfold ref8_made.F ref8_made.t
    simp only
    rw [if_neg (show ¬ (10 : Int) = 1 by decide), if_neg (show ¬ (10 : Int) = 2 by decide), if_neg (show ¬ (10 : Int) = 3 by decide), if_neg (show ¬ (10 : Int) = 4 by decide), if_neg (show ¬ (10 : Int) = 5 by decide), if_neg (show ¬ (10 : Int) = 6 by decide), if_neg (show ¬ (10 : Int) = 7 by decide), if_neg (show ¬ (10 : Int) = 8 by decide), if_neg (show ¬ (10 : Int) = 9 by decide), if_pos trivial]
    exact back _
  rw [e]
  exact group2_agree h0 h1
theorem made10_3 (h0 : Kid c0) (h1 : Kid c1) (h2 : Kid c2) : Agree (Do.meth 10 [c0, c1, c2] m) (ref8_made.F (10, [c0, c1, c2], m)) := by
  rw [show Do.meth 10 [c0, c1, c2] m = act_group.F (10, [c0, c1, c2], m) from rfl]
  have e : ref8_made.F (10, [c0, c1, c2], m) = ref8_group.F [c0, c1, c2] := by
    unfold ref8_made.F ref8_made.t
    simp only
    rw [if_neg (show ¬ (10 : Int) = 1 by decide), if_neg (show ¬ (10 : Int) = 2 by decide), if_neg (show ¬ (10 : Int) = 3 by decide), if_neg (show ¬ (10 : Int) = 4 by decide), if_neg (show ¬ (10 : Int) = 5 by decide), if_neg (show ¬ (10 : Int) = 6 by decide), if_neg (show ¬ (10 : Int) = 7 by decide), if_neg (show ¬ (10 : Int) = 8 by decide), if_neg (show ¬ (10 : Int) = 9 by decide), if_pos trivial]
    exact back _
  rw [e]
  exact group3_agree h0 h1 h2
theorem made10_4 (h0 : Kid c0) (h1 : Kid c1) (h2 : Kid c2) (h3 : Kid c3) : Agree (Do.meth 10 [c0, c1, c2, c3] m) (ref8_made.F (10, [c0, c1, c2, c3], m)) := by
  rw [show Do.meth 10 [c0, c1, c2, c3] m = act_group.F (10, [c0, c1, c2, c3], m) from rfl]
  have e : ref8_made.F (10, [c0, c1, c2, c3], m) = ref8_group.F [c0, c1, c2, c3] := by
    unfold ref8_made.F ref8_made.t
    simp only
    rw [if_neg (show ¬ (10 : Int) = 1 by decide), if_neg (show ¬ (10 : Int) = 2 by decide), if_neg (show ¬ (10 : Int) = 3 by decide), if_neg (show ¬ (10 : Int) = 4 by decide), if_neg (show ¬ (10 : Int) = 5 by decide), if_neg (show ¬ (10 : Int) = 6 by decide), if_neg (show ¬ (10 : Int) = 7 by decide), if_neg (show ¬ (10 : Int) = 8 by decide), if_neg (show ¬ (10 : Int) = 9 by decide), if_pos trivial]
    exact back _
  rw [e]
  exact group4_agree h0 h1 h2 h3
theorem made10_5 (h0 : Kid c0) (h1 : Kid c1) (h2 : Kid c2) (h3 : Kid c3) (h4 : Kid c4) : Agree (Do.meth 10 [c0, c1, c2, c3, c4] m) (ref8_made.F (10, [c0, c1, c2, c3, c4], m)) := by
  rw [show Do.meth 10 [c0, c1, c2, c3, c4] m = act_group.F (10, [c0, c1, c2, c3, c4], m) from rfl]
  have e : ref8_made.F (10, [c0, c1, c2, c3, c4], m) = ref8_group.F [c0, c1, c2, c3, c4] := by
    unfold ref8_made.F ref8_made.t
    simp only
    rw [if_neg (show ¬ (10 : Int) = 1 by decide), if_neg (show ¬ (10 : Int) = 2 by decide), if_neg (show ¬ (10 : Int) = 3 by decide), if_neg (show ¬ (10 : Int) = 4 by decide), if_neg (show ¬ (10 : Int) = 5 by decide), if_neg (show ¬ (10 : Int) = 6 by decide), if_neg (show ¬ (10 : Int) = 7 by decide), if_neg (show ¬ (10 : Int) = 8 by decide), if_neg (show ¬ (10 : Int) = 9 by decide), if_pos trivial]
    exact back _
  rw [e]
  exact group5_agree h0 h1 h2 h3 h4
theorem made10_6 (h0 : Kid c0) (h1 : Kid c1) (h2 : Kid c2) (h3 : Kid c3) (h4 : Kid c4) (h5 : Kid c5) : Agree (Do.meth 10 [c0, c1, c2, c3, c4, c5] m) (ref8_made.F (10, [c0, c1, c2, c3, c4, c5], m)) := by
  rw [show Do.meth 10 [c0, c1, c2, c3, c4, c5] m = act_group.F (10, [c0, c1, c2, c3, c4, c5], m) from rfl]
  have e : ref8_made.F (10, [c0, c1, c2, c3, c4, c5], m) = ref8_group.F [c0, c1, c2, c3, c4, c5] := by
    unfold ref8_made.F ref8_made.t
    simp only
    rw [if_neg (show ¬ (10 : Int) = 1 by decide), if_neg (show ¬ (10 : Int) = 2 by decide), if_neg (show ¬ (10 : Int) = 3 by decide), if_neg (show ¬ (10 : Int) = 4 by decide), if_neg (show ¬ (10 : Int) = 5 by decide), if_neg (show ¬ (10 : Int) = 6 by decide), if_neg (show ¬ (10 : Int) = 7 by decide), if_neg (show ¬ (10 : Int) = 8 by decide), if_neg (show ¬ (10 : Int) = 9 by decide), if_pos trivial]
    exact back _
  rw [e]
  exact group6_agree h0 h1 h2 h3 h4 h5
theorem made11 (h0 : Kid c0) : Agree (Do.meth 11 [c0] m) (ref8_made.F (11, [c0], m)) := by
  rw [show Do.meth 11 [c0] m = act_negative.F (11, [c0], m) from rfl]
  have e : ref8_made.F (11, [c0], m) = ref8_more.F (11, [c0]) := by
    unfold ref8_made.F ref8_made.t
    simp only
    rw [if_neg (show ¬ (11 : Int) = 1 by decide), if_neg (show ¬ (11 : Int) = 2 by decide), if_neg (show ¬ (11 : Int) = 3 by decide), if_neg (show ¬ (11 : Int) = 4 by decide), if_neg (show ¬ (11 : Int) = 5 by decide), if_neg (show ¬ (11 : Int) = 6 by decide), if_neg (show ¬ (11 : Int) = 7 by decide), if_neg (show ¬ (11 : Int) = 8 by decide), if_neg (show ¬ (11 : Int) = 9 by decide), if_neg (show ¬ (11 : Int) = 10 by decide)]
    exact back _
  rw [e]
  exact neg_agree h0
theorem made12 (h0 : Kid c0) (h1 : Kid c1) : Agree (Do.meth 12 [c0, c1] m) (ref8_made.F (12, [c0, c1], m)) := by
  rw [show Do.meth 12 [c0, c1] m = act_money.F (12, [c0, c1], m) from rfl]
  have e : ref8_made.F (12, [c0, c1], m) = ref8_more.F (12, [c0, c1]) := by
    unfold ref8_made.F ref8_made.t
    simp only
    rw [if_neg (show ¬ (12 : Int) = 1 by decide), if_neg (show ¬ (12 : Int) = 2 by decide), if_neg (show ¬ (12 : Int) = 3 by decide), if_neg (show ¬ (12 : Int) = 4 by decide), if_neg (show ¬ (12 : Int) = 5 by decide), if_neg (show ¬ (12 : Int) = 6 by decide), if_neg (show ¬ (12 : Int) = 7 by decide), if_neg (show ¬ (12 : Int) = 8 by decide), if_neg (show ¬ (12 : Int) = 9 by decide), if_neg (show ¬ (12 : Int) = 10 by decide)]
    exact back _
  rw [e]
  have e2 : ref8_more.F (12, [c0, c1]) = ref8_paid.F [c0, c1] := by
    unfold ref8_more.F ref8_more.t
    simp only
    rw [if_neg (show ¬ (12 : Int) = 11 by decide), if_pos trivial]
    exact back _
  rw [e2]
  exact money_agree h0 h1
theorem made13 (h0 : Kid c0) (h1 : Kid c1) : Agree (Do.meth 13 [c0, c1] m) (ref8_made.F (13, [c0, c1], m)) := by
  rw [show Do.meth 13 [c0, c1] m = act_duration.F (13, [c0, c1], m) from rfl]
  have e : ref8_made.F (13, [c0, c1], m) = ref8_more.F (13, [c0, c1]) := by
    unfold ref8_made.F ref8_made.t
    simp only
    rw [if_neg (show ¬ (13 : Int) = 1 by decide), if_neg (show ¬ (13 : Int) = 2 by decide), if_neg (show ¬ (13 : Int) = 3 by decide), if_neg (show ¬ (13 : Int) = 4 by decide), if_neg (show ¬ (13 : Int) = 5 by decide), if_neg (show ¬ (13 : Int) = 6 by decide), if_neg (show ¬ (13 : Int) = 7 by decide), if_neg (show ¬ (13 : Int) = 8 by decide), if_neg (show ¬ (13 : Int) = 9 by decide), if_neg (show ¬ (13 : Int) = 10 by decide)]
    exact back _
  rw [e]
  have e2 : ref8_more.F (13, [c0, c1]) = ref8_lasting.F [c0, c1] := by
    unfold ref8_more.F ref8_more.t
    simp only
    rw [if_neg (show ¬ (13 : Int) = 11 by decide), if_neg (show ¬ (13 : Int) = 12 by decide), if_pos trivial]
    exact back _
  rw [e2]
  exact dur_agree h0 h1
theorem made14 (h0 : Kid c0) (h1 : Kid c1) : Agree (Do.meth 14 [c0, c1] m) (ref8_made.F (14, [c0, c1], m)) := by
  rw [show Do.meth 14 [c0, c1] m = act_sum.F (14, [c0, c1], m) from rfl]
  have e : ref8_made.F (14, [c0, c1], m) = ref8_more.F (14, [c0, c1]) := by
    unfold ref8_made.F ref8_made.t
    simp only
    rw [if_neg (show ¬ (14 : Int) = 1 by decide), if_neg (show ¬ (14 : Int) = 2 by decide), if_neg (show ¬ (14 : Int) = 3 by decide), if_neg (show ¬ (14 : Int) = 4 by decide), if_neg (show ¬ (14 : Int) = 5 by decide), if_neg (show ¬ (14 : Int) = 6 by decide), if_neg (show ¬ (14 : Int) = 7 by decide), if_neg (show ¬ (14 : Int) = 8 by decide), if_neg (show ¬ (14 : Int) = 9 by decide), if_neg (show ¬ (14 : Int) = 10 by decide)]
    exact back _
  rw [e]
  exact sum_agree h0 h1 (Nat.le_trans h0.len (by omega)) (Nat.le_trans h1.len (by omega))
theorem made15 (h0 : Kid c0) (h1 : Kid c1) : Agree (Do.meth 15 [c0, c1] m) (ref8_made.F (15, [c0, c1], m)) := by
  rw [show Do.meth 15 [c0, c1] m = act_span.F (15, [c0, c1], m) from rfl]
  have e : ref8_made.F (15, [c0, c1], m) = ref8_more.F (15, [c0, c1]) := by
    unfold ref8_made.F ref8_made.t
    simp only
    rw [if_neg (show ¬ (15 : Int) = 1 by decide), if_neg (show ¬ (15 : Int) = 2 by decide), if_neg (show ¬ (15 : Int) = 3 by decide), if_neg (show ¬ (15 : Int) = 4 by decide), if_neg (show ¬ (15 : Int) = 5 by decide), if_neg (show ¬ (15 : Int) = 6 by decide), if_neg (show ¬ (15 : Int) = 7 by decide), if_neg (show ¬ (15 : Int) = 8 by decide), if_neg (show ¬ (15 : Int) = 9 by decide), if_neg (show ¬ (15 : Int) = 10 by decide)]
    exact back _
  rw [e]
  have e2 : ref8_more.F (15, [c0, c1]) = ref8_both.F ([c0, c1], 4, 4, 10) := by
    unfold ref8_more.F ref8_more.t
    simp only
    rw [if_neg (show ¬ (15 : Int) = 11 by decide), if_neg (show ¬ (15 : Int) = 12 by decide), if_neg (show ¬ (15 : Int) = 13 by decide), if_neg (show ¬ (15 : Int) = 14 by decide), if_pos trivial]
    exact back _
  rw [e2]
  exact span_agree h0 h1 (Nat.le_trans h0.len (by omega)) (Nat.le_trans h1.len (by omega))
/-- What is picked is as it is. -/
theorem pick_one (p : Int) (l : List S27) (m : Mom) (h0 : 0 ≤ p) (h1 : p < (l.length : Int)) (hk : (rd_T27 l p).f1.length ≤ 6) : act_Do.F (⟨0, [p]⟩, l, m) = some (rd_T27 l p, true) ∧ ref8_Do.F (⟨0, [p]⟩, l, m) = some (rd_T27 l p, true) := by
  have g : rd [p] 0 = p := rfl
  constructor
  · unfold act_Do.F
    simp only
    rw [if_pos ⟨by simp, by simp [h0, h1]⟩, if_pos trivial, g, if_pos ⟨by simp, by omega⟩]
  · unfold ref8_Do.F ref8_Do.t
    have q0 : (0 : Int) < ((0 + 1 : Nat) : Int) := by omega
    have qn : ¬ (1 : Int) < ((0 + 1 : Nat) : Int) := by omega
    simp only [List.length_cons, List.length_nil, g, if_pos h0, if_pos h1, if_pos q0, if_neg qn]
    rw [if_pos trivial]
    exact if_pos (show 0 + (rd_T27 l p).f1.length ≤ 1000000 by omega)
end
end Ev
end Go.Proofs.Ytldfljlklfhjkaa.PE
