/- What act makes and what the document makes, of children that are told: method by method. Conditions: as each states. -/
import Derived.Test.YtldfljlklfhjkaaPFt5
import Derived.Test.YtldfljlklfhjkaaPurF0
namespace Go.Proofs.Ytldfljlklfhjkaa.PE
open Go.RowKit Go.Proofs.YtldfljlklfhjkaaW.PrintWords Go.Proofs.YtldfljlklfhjkaaW.PrintLast Go.Proofs.YtldfljlklfhjkaaW.PrintMore
set_option linter.unusedVariables false
set_option linter.unusedSimpArgs false
namespace Ev
theorem om_n {α γ : Type} (x : γ) (f : α → γ) : om (none : Option α) x f = x := rfl
theorem om_s {α γ : Type} (a : α) (x : γ) (f : α → γ) : om (some a) x f = f a := rfl
/-- A child: a number, a word, a mark, or a value that may be. -/
structure Kid (c : S27) : Prop where
  num : c.f0 = 1 → ∃ v d, c.f1 = [v, d] ∧ 0 ≤ v ∧ v ≤ 100000000 ∧ 1 ≤ d ∧ d ≤ 9 ∧ (d ≤ 2 → v ≤ 99)
  word : c.f0 = 2 → ∃ x, c.f1 = [x] ∧ -2147483648 ≤ x ∧ x ≤ 2147483648
  val : 4 ≤ c.f0 → c.f0 ≤ 10 → act_Right.F c = some true
  len : c.f1.length ≤ 6
/-- The number, the word, either that a child means. -/
def kN (c : S27) : Option Int := if c.f0 = 1 then some (rd c.f1 0) else none
def kW (c : S27) : Option Int := if c.f0 = 2 then some (rd c.f1 0) else none
def kC (c : S27) : Option Int := if c.f0 = 2 then some (rd c.f1 0) else if c.f0 = 1 then some (rd c.f1 0) else none
def kF (k : Int) (c : S27) : Option (List Int) := if c.f0 = k then some c.f1 else none
section
variable {op : Int} {l : List S27} {m : Mom} {c : S27}
theorem of_is (i k : Int) (h0 : 0 ≤ i) (h1 : i < l.length) : act_of.F ((op, l, m), i, k) = some (kF k (rd_T27 l i)) := by
  unfold act_of.F act_of.t kF
  simp only
  rw [if_pos h1, if_pos h0, if_pos h1]
  by_cases c : (rd_T27 l i).f0 = k
  · rw [if_pos c, if_pos h0, if_pos h1, if_pos c]
  · rw [if_neg c, if_neg c]
theorem number_is (i : Int) (h0 : 0 ≤ i) (h1 : i < l.length) (hk : Kid (rd_T27 l i)) : act_number.F ((op, l, m), i) = some (kN (rd_T27 l i)) := by
  unfold act_number.F act_number.t kN
  have := of_is (op := op) (l := l) (m := m) i 1 h0 h1
  simp only at this ⊢
  rw [show (op, l, m.1, m.2.1, m.2.2.1, m.2.2.2.1, m.2.2.2.2.1, m.2.2.2.2.2) = (op, l, m) from rfl, this, Option.bind_some]
  unfold kF
  by_cases c : (rd_T27 l i).f0 = 1
  · obtain ⟨v, d, e, _⟩ := hk.num c
    rw [if_pos c, if_pos c, om_s, e, if_pos (by simp)]
  · rw [if_neg c, if_neg c, om_n]
theorem word_is (i : Int) (h0 : 0 ≤ i) (h1 : i < l.length) (hk : Kid (rd_T27 l i)) : act_word.F ((op, l, m), i) = some (kW (rd_T27 l i)) := by
  unfold act_word.F act_word.t kW
  have := of_is (op := op) (l := l) (m := m) i 2 h0 h1
  simp only at this ⊢
  rw [show (op, l, m.1, m.2.1, m.2.2.1, m.2.2.2.1, m.2.2.2.2.1, m.2.2.2.2.2) = (op, l, m) from rfl, this, Option.bind_some]
  unfold kF
  by_cases c : (rd_T27 l i).f0 = 2
  · obtain ⟨v, e, _⟩ := hk.word c
    rw [if_pos c, if_pos c, om_s, e, if_pos (by simp)]
  · rw [if_neg c, if_neg c, om_n]
theorem count_is (i : Int) (h0 : 0 ≤ i) (h1 : i < l.length) (hk : Kid (rd_T27 l i)) : act_count.F ((op, l, m), i) = some (kC (rd_T27 l i)) := by
  unfold act_count.F act_count.t kC
  have e1 := number_is (op := op) (l := l) (m := m) i h0 h1 hk
  have e2 := word_is (op := op) (l := l) (m := m) i h0 h1 hk
  simp only at e1 e2 ⊢
  rw [show (op, l, m.1, m.2.1, m.2.2.1, m.2.2.2.1, m.2.2.2.2.1, m.2.2.2.2.2) = (op, l, m) from rfl, if_pos h1, if_pos h0, if_pos h1]
  by_cases c : (rd_T27 l i).f0 = 2
  · rw [if_pos c, if_pos c, e2, Option.bind_some]
    unfold kW; rw [if_pos c]; rfl
  · rw [if_neg c, if_neg c, e1, Option.bind_some]
    unfold kN
    by_cases c1 : (rd_T27 l i).f0 = 1
    · rw [if_pos c1]; rfl
    · rw [if_neg c1]; rfl
theorem rnumber_is (hk : Kid c) : ref8_number.F { f0 := c.f0, f1 := c.f1 } = some ((kN c).getD 0, (kN c).isSome) := by
  unfold ref8_number.F ref8_number.t kN
  by_cases h : c.f0 = 1
  · obtain ⟨v, d, e, _⟩ := hk.num h
    simp [h, e]
  · simp [h]
theorem rword_is (hk : Kid c) : ref8_word.F { f0 := c.f0, f1 := c.f1 } = some ((kW c).getD 0, (kW c).isSome) := by
  unfold ref8_word.F ref8_word.t kW
  by_cases h : c.f0 = 2
  · obtain ⟨v, e, _⟩ := hk.word h
    simp [h, e]
  · simp [h]
theorem rcount_is (hk : Kid c) : ref8_count.F { f0 := c.f0, f1 := c.f1 } = some ((kC c).getD 0, (kC c).isSome) := by
  unfold ref8_count.F ref8_count.t
  rw [rnumber_is hk, rword_is hk]
  unfold kN kW kC
  by_cases h : c.f0 = 2
  · rw [if_neg (by omega), if_pos h]; rfl
  · by_cases h1 : c.f0 = 1
    · rw [if_pos h1, if_neg h, if_neg h]; rfl
    · rw [if_neg h1, if_neg h]; rfl
theorem mk_is (k : Int) (f : List Int) (h : f.length ≤ 1000000) : act_value.F (k, f) = some ⟨k, f⟩ := by
  unfold act_value.F act_value.t slices_Clone.F
  simp only
  rw [if_pos h]; rfl
end
/-- Both make the same, or both nothing that may be. -/
def Agree (o : Option (Option S27)) (r : Option (S27 × Bool)) : Prop :=
  ∃ x v is, o = some x ∧ r = some (v, is) ∧ ((x = none ∧ is = false) ∨ (x = some v ∧ is = true) ∨ (∃ y, x = some y ∧ act_Right.F y = some false ∧ is = false) ∨ (x = none ∧ ref8_Right.F v = some false))
theorem agree_no {v : S27} : Agree (some none) (some (v, false)) := ⟨_, _, _, rfl, rfl, .inl ⟨rfl, rfl⟩⟩
theorem agree_yes {v : S27} : Agree (some (some v)) (some (v, true)) := ⟨_, _, _, rfl, rfl, .inr (.inl ⟨rfl, rfl⟩)⟩
section
variable {c0 c1 c2 : S27} {m : Mom}
theorem rd0 {l : List S27} : rd_T27 (c0 :: l) 0 = c0 := rfl
theorem rd1 {l : List S27} : rd_T27 (c0 :: c1 :: l) 1 = c1 := rfl
theorem rd2 {l : List S27} : rd_T27 (c0 :: c1 :: c2 :: l) 2 = c2 := rfl
/-- A day of this year. -/
theorem this_agree (h0 : Kid c0) (h1 : Kid c1) : Agree (act_this.F (2, [c0, c1], m)) (ref8_date.F ([c0, c1], m)) := by
  unfold act_this.F act_this.t ref8_date.F ref8_date.t
  have w0 : wrap64 (((0 + 1 + 1 : Nat) : Int) - 2) = 0 := by kernel_rfl
  have w1 : wrap64 (((0 + 1 + 1 : Nat) : Int) - 1) = 1 := by kernel_rfl
  have e0 := count_is (op := 2) (l := [c0, c1]) (m := m) 0 (by omega) (by simp) h0
  have e1 := number_is (op := 2) (l := [c0, c1]) (m := m) 1 (by omega) (by simp) h1
  have q0 : ¬ ((0 + 1 + 1 : Nat) : Int) = 3 := by omega
  have q1 : (0 : Int) < ((0 + 1 + 1 : Nat) : Int) := by omega
  have q2 : (1 : Int) < ((0 + 1 + 1 : Nat) : Int) := by omega
  have q3 : (0 : Int) ≤ 0 := by omega
  have q4 : (0 : Int) ≤ 1 := by omega
  simp only [List.length_cons, List.length_nil] at e0 e1 ⊢
  simp only [show (2, [c0, c1], m.1, m.2.1, m.2.2.1, m.2.2.2.1, m.2.2.2.2.1, m.2.2.2.2.2) = (2, [c0, c1], m) from rfl, e0, e1, rd0, rd1, w0, w1, if_neg q0, if_pos q1, if_pos q2, if_pos q3, if_pos q4, rcount_is h0, rnumber_is h1, Option.bind_some]
  cases kC c0 with
  | none => cases kN c1 <;> exact agree_no
  | some a =>
    cases kN c1 with
    | none => exact agree_no
    | some b =>
      simp only [om_s, mk_is 4 [m.1, a, b] (by simp), Option.bind_some]
      exact agree_yes
/-- A year is meant alike. -/
theorem year_same (hk : Kid c0) (h : c0.f0 = 1) (y0 : 1 ≤ m.1) (y1 : m.1 ≤ 9999) : ∃ y b, act_Year.F ({ f0 := c0.f0, f1 := c0.f1 }, m) = some (y, b) ∧ ref8_Year.F ({ f0 := c0.f0, f1 := c0.f1 }, m) = some (y, b) := by
  obtain ⟨v, d, e, v0, v1, d0, d1, dv⟩ := hk.num h
  have g0 : rd [v, d] 0 = v := rfl
  have g1 : rd [v, d] 1 = d := rfl
  have q1 : (0 : Int) < ((0 + 1 + 1 : Nat) : Int) := by omega
  have q2 : (1 : Int) < ((0 + 1 + 1 : Nat) : Int) := by omega
  have q3 : ((0 + 1 + 1 : Nat) : Int) = 2 := by omega
  unfold act_Year.F act_Year.t act_year.F act_year.t ref8_Year.F ref8_Year.t
  simp only [h, e, g0, g1, List.length_cons, List.length_nil, if_pos q1, if_pos q2, if_pos q3]
  rw [if_pos trivial, if_pos trivial]
  by_cases hd : d > 2
  · simp only [if_pos hd, if_neg (show ¬ d ≤ 2 by omega), Option.bind_some]
    by_cases c1 : v < 1
    · rw [if_pos c1]; exact ⟨_, _, rfl, rfl⟩
    · rw [if_neg c1]
      by_cases c2 : v > 9999
      · rw [if_pos c2]; exact ⟨_, _, rfl, rfl⟩
      · rw [if_neg c2]; exact ⟨_, _, rfl, rfl⟩
  · have hv := dv (by omega)
    have E1 := Int.mul_tdiv_add_tmod (v - (m.1 - 50)) 100
    have E2 := Int.mul_tdiv_add_tmod (m.1 - 50) 100
    have B1 := Int.tmod_lt_of_pos (v - (m.1 - 50)) (b := 100) (by omega)
    have B2 := Int.lt_tmod_of_pos (v - (m.1 - 50)) (b := 100) (by omega)
    have B3 := Int.tmod_lt_of_pos (m.1 - 50) (b := 100) (by omega)
    have B4 := Int.lt_tmod_of_pos (m.1 - 50) (b := 100) (by omega)
    have key : wrap64 (wrap64 (m.1 - 50) + (wrap64 ((wrap64 (v - wrap64 (m.1 - 50))).tmod 100 + 100)).tmod 100) = wrap64 (wrap64 (m.1 - 50) + (wrap64 (wrap64 (v - (wrap64 (m.1 - 50)).tmod 100) + 200)).tmod 100) := by
      rw [wrap_id (m.1 - 50) (by omega) (by omega), wrap_id (v - (m.1 - 50)) (by omega) (by omega)]
      generalize Int.tmod (v - (m.1 - 50)) 100 = a at *
      generalize Int.tmod (m.1 - 50) 100 = b at *
      rw [wrap_id (a + 100) (by omega) (by omega), wrap_id (v - b) (by omega) (by omega), wrap_id (v - b + 200) (by omega) (by omega), Int.tmod_eq_emod_of_nonneg (show 0 ≤ a + 100 by omega), Int.tmod_eq_emod_of_nonneg (show 0 ≤ v - b + 200 by omega)]
      congr 1
      omega
    simp only [if_neg hd, if_pos (show d ≤ 2 by omega), Option.bind_some, key]
    generalize wrap64 (wrap64 (m.1 - 50) + (wrap64 (wrap64 (v - (wrap64 (m.1 - 50)).tmod 100) + 200)).tmod 100) = y
    by_cases c1 : y < 1
    · rw [if_pos c1]; exact ⟨_, _, rfl, rfl⟩
    · rw [if_neg c1]
      by_cases c2 : y > 9999
      · rw [if_pos c2]; exact ⟨_, _, rfl, rfl⟩
      · rw [if_neg c2]; exact ⟨_, _, rfl, rfl⟩
theorem year_no (h : ¬ c0.f0 = 1) : ref8_Year.F ({ f0 := c0.f0, f1 := c0.f1 }, m) = some (0, false) := by
  unfold ref8_Year.F ref8_Year.t
  simp only
  rw [if_neg h]
/-- A day. -/
theorem date_agree (h0 : Kid c0) (h1 : Kid c1) (h2 : Kid c2) (y0 : 1 ≤ m.1) (y1 : m.1 ≤ 9999) : Agree (act_date.F (1, [c0, c1, c2], m)) (ref8_date.F ([c0, c1, c2], m)) := by
  unfold act_date.F act_date.t ref8_date.F ref8_date.t
  have w0 : wrap64 (((0 + 1 + 1 + 1 : Nat) : Int) - 2) = 1 := by kernel_rfl
  have w1 : wrap64 (((0 + 1 + 1 + 1 : Nat) : Int) - 1) = 2 := by kernel_rfl
  have e0 := number_is (op := 1) (l := [c0, c1, c2]) (m := m) 0 (by omega) (by simp) h0
  have e1 := count_is (op := 1) (l := [c0, c1, c2]) (m := m) 1 (by omega) (by simp) h1
  have e2 := number_is (op := 1) (l := [c0, c1, c2]) (m := m) 2 (by omega) (by simp) h2
  have p1 : (0 : Int) < ((0 + 1 + 1 + 1 : Nat) : Int) := by omega
  have p2 : (1 : Int) < ((0 + 1 + 1 + 1 : Nat) : Int) := by omega
  have p3 : (2 : Int) < ((0 + 1 + 1 + 1 : Nat) : Int) := by omega
  have p4 : ((0 + 1 + 1 + 1 : Nat) : Int) = 3 := by omega
  have p5 : (0 : Int) ≤ 1 := by omega
  have p6 : (0 : Int) ≤ 2 := by omega
  simp only [List.length_cons, List.length_nil] at e0 e1 e2 ⊢
  simp only [show (1, [c0, c1, c2], m.1, m.2.1, m.2.2.1, m.2.2.2.1, m.2.2.2.2.1, m.2.2.2.2.2) = (1, [c0, c1, c2], m) from rfl, show (m.1, m.2.1, m.2.2.1, m.2.2.2.1, m.2.2.2.2.1, m.2.2.2.2.2) = m from rfl, e0, e1, e2, rd0, rd1, rd2, w0, w1, if_pos p1, if_pos p2, if_pos p3, if_pos p4, if_pos p5, if_pos p6, rcount_is h1, rnumber_is h2, Option.bind_some]
  by_cases h : c0.f0 = 1
  · obtain ⟨y, b, ea, er⟩ := year_same (m := m) h0 h y0 y1
    rw [ea, er]
    have : kN c0 = some (rd c0.f1 0) := by unfold kN; rw [if_pos h]
    rw [this]
    simp only [om_s, Option.bind_some]
    cases b with
    | false =>
      simp only [bm_f]
      cases kC c1 <;> cases kN c2 <;> exact agree_no
    | true =>
      simp only [bm_t]
      cases kC c1 with
      | none => cases kN c2 <;> exact agree_no
      | some a =>
        cases kN c2 with
        | none => exact agree_no
        | some b =>
          simp only [om_s, mk_is 4 [y, a, b] (by simp), Option.bind_some]
          exact agree_yes
  · have : kN c0 = none := by unfold kN; rw [if_neg h]
    rw [this, year_no h]
    simp only [om_n, Option.bind_some, bm_f]
    cases kC c1 <;> cases kN c2 <;> exact agree_no
/-- A time. -/
theorem time3_agree (h0 : Kid c0) (h1 : Kid c1) (h2 : Kid c2) : Agree (act_mtime.F (3, [c0, c1, c2], m)) (ref8_clock.F [c0, c1, c2]) := by
  unfold act_mtime.F act_mtime.t ref8_clock.F ref8_clock.t
  have e0 := number_is (op := 3) (l := [c0, c1, c2]) (m := m) 0 (by omega) (by simp) h0
  have e1 := number_is (op := 3) (l := [c0, c1, c2]) (m := m) 1 (by omega) (by simp) h1
  have e2 := number_is (op := 3) (l := [c0, c1, c2]) (m := m) 2 (by omega) (by simp) h2
  have p1 : (0 : Int) < ((0 + 1 + 1 + 1 : Nat) : Int) := by omega
  have p2 : (1 : Int) < ((0 + 1 + 1 + 1 : Nat) : Int) := by omega
  have p3 : (2 : Int) < ((0 + 1 + 1 + 1 : Nat) : Int) := by omega
  have p4 : ((0 + 1 + 1 + 1 : Nat) : Int) > 2 := by omega
  simp only [List.length_cons, List.length_nil] at e0 e1 e2 ⊢
  simp only [show (3, [c0, c1, c2], m.1, m.2.1, m.2.2.1, m.2.2.2.1, m.2.2.2.2.1, m.2.2.2.2.2) = (3, [c0, c1, c2], m) from rfl, e0, e1, e2, rd0, rd1, rd2, if_pos p1, if_pos p2, if_pos p3, if_pos p4, rnumber_is h0, rnumber_is h1, rnumber_is h2, Option.bind_some]
  cases kN c0 with
  | none => exact agree_no
  | some a =>
    cases kN c1 with
    | none => exact agree_no
    | some b =>
      cases kN c2 with
      | none => exact agree_no
      | some c =>
        simp only [om_s, mk_is 5 ([a, b, 0].set 2 c) (by simp), Option.bind_some]
        exact agree_yes
theorem time2_agree (h0 : Kid c0) (h1 : Kid c1) : Agree (act_mtime.F (3, [c0, c1], m)) (ref8_clock.F [c0, c1]) := by
  unfold act_mtime.F act_mtime.t ref8_clock.F ref8_clock.t
  have e0 := number_is (op := 3) (l := [c0, c1]) (m := m) 0 (by omega) (by simp) h0
  have e1 := number_is (op := 3) (l := [c0, c1]) (m := m) 1 (by omega) (by simp) h1
  have q1 : (0 : Int) < ((0 + 1 + 1 : Nat) : Int) := by omega
  have q2 : (1 : Int) < ((0 + 1 + 1 : Nat) : Int) := by omega
  have q4 : ¬ ((0 + 1 + 1 : Nat) : Int) > 2 := by omega
  have q5 : ¬ (2 : Int) < ((0 + 1 + 1 : Nat) : Int) := by omega
  simp only [List.length_cons, List.length_nil] at e0 e1 ⊢
  simp only [show (3, [c0, c1], m.1, m.2.1, m.2.2.1, m.2.2.2.1, m.2.2.2.2.1, m.2.2.2.2.2) = (3, [c0, c1], m) from rfl, e0, e1, rd0, rd1, if_pos q1, if_pos q2, if_neg q4, if_neg q5, rnumber_is h0, rnumber_is h1, Option.bind_some]
  cases kN c0 with
  | none => exact agree_no
  | some a =>
    cases kN c1 with
    | none => exact agree_no
    | some b =>
      simp only [om_s, mk_is 5 [a, b, 0] (by simp), Option.bind_some]
      exact agree_yes
/-- A time of half a day. -/
theorem half2_agree (h0 : Kid c0) (h1 : Kid c1) : Agree (act_half.F (4, [c0, c1], m)) (ref8_halved.F [c0, c1]) := by
  unfold act_half.F act_half.t ref8_halved.F ref8_halved.t
  have w1 : wrap64 (((0 + 1 + 1 : Nat) : Int) - 1) = 1 := by kernel_rfl
  have e0 := number_is (op := 4) (l := [c0, c1]) (m := m) 0 (by omega) (by simp) h0
  have e1 := word_is (op := 4) (l := [c0, c1]) (m := m) 1 (by omega) (by simp) h1
  have q1 : (0 : Int) < ((0 + 1 + 1 : Nat) : Int) := by omega
  have q2 : (1 : Int) < ((0 + 1 + 1 : Nat) : Int) := by omega
  have q4 : ¬ (1 : Int) > 1 := by omega
  have q5 : ¬ ((0 + 1 + 1 : Nat) : Int) = 3 := by omega
  have q6 : (0 : Int) ≤ 1 := by omega
  simp only [List.length_cons, List.length_nil] at e0 e1 ⊢
  simp only [show (4, [c0, c1], m.1, m.2.1, m.2.2.1, m.2.2.2.1, m.2.2.2.2.1, m.2.2.2.2.2) = (4, [c0, c1], m) from rfl, e0, e1, rd0, rd1, w1, if_pos q1, if_pos q2, if_neg q4, if_neg q5, if_pos q6, rnumber_is h0, rword_is h1, Option.bind_some]
  cases kN c0 with
  | none => cases kW c1 <;> exact agree_no
  | some a =>
    cases kW c1 with
    | none => exact agree_no
    | some k =>
      simp only [om_s, Option.getD_some, Option.isSome_some, bm_t]
      by_cases x0 : a ≥ 1
      · by_cases x1 : a ≤ 12
        · by_cases x2 : k = 0
          · simp only [if_pos x0, if_pos x1, if_pos x2, if_neg (show ¬ a < 1 by omega), if_neg (show ¬ a > 12 by omega), if_neg (show ¬ k < 0 by omega), if_neg (show ¬ k > 1 by omega), mk_is 5 [wrap64 (a.tmod 12 + wrap64 (12 * k)), 0, 0] (by simp), Option.bind_some]
            exact agree_yes
          · by_cases x3 : k = 1
            · simp only [if_pos x0, if_pos x1, if_neg x2, if_pos x3, if_neg (show ¬ a < 1 by omega), if_neg (show ¬ a > 12 by omega), if_neg (show ¬ k < 0 by omega), if_neg (show ¬ k > 1 by omega), mk_is 5 [wrap64 (a.tmod 12 + wrap64 (12 * k)), 0, 0] (by simp), Option.bind_some]
              exact agree_yes
            · simp only [if_pos x0, if_pos x1, if_neg x2, if_neg x3, if_neg (show ¬ a < 1 by omega), if_neg (show ¬ a > 12 by omega)]
              by_cases x4 : k < 0
              · rw [if_pos x4]; exact agree_no
              · rw [if_neg x4, if_pos (show k > 1 by omega)]; exact agree_no
        · simp only [if_pos x0, if_neg x1, if_neg (show ¬ a < 1 by omega), if_pos (show a > 12 by omega)]
          exact agree_no
      · simp only [if_neg x0, if_pos (show a < 1 by omega)]
        exact agree_no
theorem half3_agree (h0 : Kid c0) (h1 : Kid c1) (h2 : Kid c2) : Agree (act_half.F (4, [c0, c1, c2], m)) (ref8_halved.F [c0, c1, c2]) := by
  unfold act_half.F act_half.t ref8_halved.F ref8_halved.t
  have w1 : wrap64 (((0 + 1 + 1 + 1 : Nat) : Int) - 1) = 2 := by kernel_rfl
  have e0 := number_is (op := 4) (l := [c0, c1, c2]) (m := m) 0 (by omega) (by simp) h0
  have e1 := number_is (op := 4) (l := [c0, c1, c2]) (m := m) 1 (by omega) (by simp) h1
  have e2 := word_is (op := 4) (l := [c0, c1, c2]) (m := m) 2 (by omega) (by simp) h2
  have p1 : (0 : Int) < ((0 + 1 + 1 + 1 : Nat) : Int) := by omega
  have p2 : (1 : Int) < ((0 + 1 + 1 + 1 : Nat) : Int) := by omega
  have p3 : (2 : Int) < ((0 + 1 + 1 + 1 : Nat) : Int) := by omega
  have p4 : (2 : Int) > 1 := by omega
  have p5 : ((0 + 1 + 1 + 1 : Nat) : Int) = 3 := by omega
  have p6 : (0 : Int) ≤ 2 := by omega
  simp only [List.length_cons, List.length_nil] at e0 e1 e2 ⊢
  simp only [show (4, [c0, c1, c2], m.1, m.2.1, m.2.2.1, m.2.2.2.1, m.2.2.2.2.1, m.2.2.2.2.2) = (4, [c0, c1, c2], m) from rfl, e0, e1, e2, rd0, rd1, rd2, w1, if_pos p1, if_pos p2, if_pos p3, if_pos p4, if_pos p5, if_pos p6, rnumber_is h0, rnumber_is h1, rword_is h2, Option.bind_some]
  cases kN c0 with
  | none => cases kN c1 <;> cases kW c2 <;> exact agree_no
  | some a =>
    cases kN c1 with
    | none => cases kW c2 <;> exact agree_no
    | some b =>
    cases kW c2 with
    | none => exact agree_no
    | some k =>
      simp only [om_s, Option.getD_some, Option.isSome_some, bm_t]
      by_cases x0 : a ≥ 1
      · by_cases x1 : a ≤ 12
        · by_cases x2 : k = 0
          · simp only [if_pos x0, if_pos x1, if_pos x2, if_neg (show ¬ a < 1 by omega), if_neg (show ¬ a > 12 by omega), if_neg (show ¬ k < 0 by omega), if_neg (show ¬ k > 1 by omega), mk_is 5 [wrap64 (a.tmod 12 + wrap64 (12 * k)), b, 0] (by simp), Option.bind_some]
            exact agree_yes
          · by_cases x3 : k = 1
            · simp only [if_pos x0, if_pos x1, if_neg x2, if_pos x3, if_neg (show ¬ a < 1 by omega), if_neg (show ¬ a > 12 by omega), if_neg (show ¬ k < 0 by omega), if_neg (show ¬ k > 1 by omega), mk_is 5 [wrap64 (a.tmod 12 + wrap64 (12 * k)), b, 0] (by simp), Option.bind_some]
              exact agree_yes
            · simp only [if_pos x0, if_pos x1, if_neg x2, if_neg x3, if_neg (show ¬ a < 1 by omega), if_neg (show ¬ a > 12 by omega)]
              by_cases x4 : k < 0
              · rw [if_pos x4]; exact agree_no
              · rw [if_neg x4, if_pos (show k > 1 by omega)]; exact agree_no
        · simp only [if_pos x0, if_neg x1, if_neg (show ¬ a < 1 by omega), if_pos (show a > 12 by omega)]
          exact agree_no
      · simp only [if_neg x0, if_pos (show a < 1 by omega)]
        exact agree_no
/-- A duration. -/
theorem dur_agree (h0 : Kid c0) (h1 : Kid c1) : Agree (act_duration.F (13, [c0, c1], m)) (ref8_lasting.F [c0, c1]) := by
  unfold act_duration.F act_duration.t ref8_lasting.F ref8_lasting.t
  have e0 := count_is (op := 13) (l := [c0, c1]) (m := m) 0 (by omega) (by simp) h0
  have e1 := word_is (op := 13) (l := [c0, c1]) (m := m) 1 (by omega) (by simp) h1
  have q1 : (0 : Int) < ((0 + 1 + 1 : Nat) : Int) := by omega
  have q2 : (1 : Int) < ((0 + 1 + 1 : Nat) : Int) := by omega
  simp only [List.length_cons, List.length_nil] at e0 e1 ⊢
  simp only [show (13, [c0, c1], m.1, m.2.1, m.2.2.1, m.2.2.2.1, m.2.2.2.2.1, m.2.2.2.2.2) = (13, [c0, c1], m) from rfl, e0, e1, rd0, rd1, if_pos q1, if_pos q2, rcount_is h0, rword_is h1, Option.bind_some]
  cases kC c0 with
  | none => cases kW c1 <;> exact agree_no
  | some a =>
    cases kW c1 with
    | none => exact agree_no
    | some k =>
      simp only [om_s, Option.getD_some, Option.isSome_some, bm_t]
      by_cases x0 : a ≥ 0
      · by_cases x1 : k ≥ 1
        · by_cases x2 : a ≤ wrap64 (Int.tdiv 9007199254740991 k)
          · simp only [if_pos x0, if_pos x1, if_pos x2, if_neg (show ¬ k = 0 by omega), if_neg (show ¬ a < 0 by omega), if_neg (show ¬ k < 1 by omega), if_neg (show ¬ a > wrap64 (Int.tdiv 9007199254740991 k) by omega), mk_is 9 [wrap64 (a * k)] (by simp), Option.bind_some]
            exact agree_yes
          · simp only [if_pos x0, if_pos x1, if_neg x2, if_neg (show ¬ k = 0 by omega), if_neg (show ¬ a < 0 by omega), if_neg (show ¬ k < 1 by omega), if_pos (show a > wrap64 (Int.tdiv 9007199254740991 k) by omega)]
            exact agree_no
        · simp only [if_pos x0, if_neg x1, if_neg (show ¬ a < 0 by omega), if_pos (show k < 1 by omega)]
          exact agree_no
      · simp only [if_neg x0, if_pos (show a < 0 by omega)]
        exact agree_no
/-- The document's Norm and civil's, of a whole number. -/
theorem whole_same (n : Int) (h0 : -9223372036854775808 ≤ n) (h1 : n ≤ 9223372036854775807) : act_normed.F (n, 0) = some ⟨7, [n, 0]⟩ ∧ ref8_whole.F (n, 0) = some ⟨7, [n, 0]⟩ := by
  have e1 : dec_Norm.F (n, 0) = some (n, 0) := by
    show dec_Norm.f n 0 = _
    unfold dec_Norm.f
    rw [if_pos ⟨h0, h1, by omega⟩]; rfl
  have e2 : interlocutorref2_Norm.F (n, 0) = some (n, 0) := rfl
  constructor
  · unfold act_normed.F act_normed.t
    simp only [e1, Option.bind_some, mk_is 7 [n, 0] (by simp)]
  · unfold ref8_whole.F ref8_whole.t
    simp only [e2, Option.bind_some]
theorem kN_bd (h : Kid c0) {n : Int} (e : kN c0 = some n) : 0 ≤ n ∧ n ≤ 100000000 := by
  unfold kN at e
  by_cases c : c0.f0 = 1
  · obtain ⟨v, d, e1, v0, v1, _⟩ := h.num c
    rw [if_pos c, e1] at e
    obtain rfl : v = n := Option.some.inj e
    exact ⟨v0, v1⟩
  · rw [if_neg c] at e; cases e
/-- What 'made' says of each. -/
theorem whole_agree (h0 : Kid c0) : Agree (act_whole.F (8, [c0], m)) (ref8_made.F (8, [c0], m)) := by
  unfold act_whole.F act_whole.t ref8_made.F ref8_made.t
  have e0 := number_is (op := 8) (l := [c0]) (m := m) 0 (by omega) (by simp) h0
  have q1 : (0 : Int) < ((0 + 1 : Nat) : Int) := by omega
  simp only [List.length_cons, List.length_nil] at e0 ⊢
  simp only [show (8, [c0], m.1, m.2.1, m.2.2.1, m.2.2.2.1, m.2.2.2.2.1, m.2.2.2.2.2) = (8, [c0], m) from rfl, e0, rd0, if_pos q1, rnumber_is h0, Option.bind_some]
  rw [if_neg (by decide), if_neg (by decide), if_neg (by decide), if_neg (by decide), if_neg (by decide), if_neg (by decide), if_neg (by decide), if_pos trivial]
  cases hn : kN c0 with
  | none =>
    have e := (whole_same 0 (by omega) (by omega)).2
    simp only [om_n, Option.getD_none, Option.isSome_none, bm_f, e, Option.bind_some]
    exact agree_no
  | some n =>
    obtain ⟨b0, b1⟩ := kN_bd h0 hn
    obtain ⟨e, e2⟩ := whole_same n (by omega) (by omega)
    simp only [om_s, Option.getD_some, Option.isSome_some, bm_t, e, e2, Option.bind_some]
    exact agree_yes
end
end Ev
end Go.Proofs.Ytldfljlklfhjkaa.PE
