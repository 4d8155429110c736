/- Money is so many of its least unit: what is finer is none: the plain statement behind the row. Conditions: none. -/
import Derived.Test.YtldfljlklfhjkaaPEt3
namespace Go.Proofs.Ytldfljlklfhjkaa.PE
open Go.RowKit Go.Proofs.YtldfljlklfhjkaaW.PrintWords Go.Proofs.YtldfljlklfhjkaaW.PrintLast Go.Proofs.YtldfljlklfhjkaaW.PrintMore
set_option linter.unusedVariables false
set_option linter.unusedSimpArgs false
namespace Ev
theorem wrap_id (x : Int) (h0 : -9223372036854775808 ≤ x) (h1 : x ≤ 9223372036854775807) : wrap64 x = x := by unfold wrap64; omega
theorem within_is (a n : Int) (h : 0 < n) (h2 : n ≤ 9007199254740992) : ∃ x, interlocutorlaw8_within.F (a, n) = some x ∧ 0 ≤ x ∧ x < n := by
  show ∃ x, interlocutorlaw8_within.f a n = some x ∧ _
  unfold interlocutorlaw8_within.f
  rw [if_neg (by omega)]
  have h0 : Int.tmod a n < n := Int.tmod_lt_of_pos a h
  have h1 : -n < Int.tmod a n := by have := Int.lt_tmod_of_pos a h; omega
  by_cases c : Int.tmod a n < 0
  · rw [if_pos c]; exact ⟨_, rfl, by unfold wrap64; omega, by unfold wrap64; omega⟩
  · rw [if_neg c]; exact ⟨_, rfl, by omega, h0⟩
theorem within1_is (a n : Int) (h : 0 < n) (h2 : n ≤ 9007199254740992) : ∃ x, interlocutorlaw1_within.f a n = some x ∧ 0 ≤ x ∧ x < n := within_is a n h h2
theorem within2_is (a n : Int) (h : 0 < n) (h2 : n ≤ 9007199254740992) : ∃ x, interlocutorlaw2_within.f a n = some x ∧ 0 ≤ x ∧ x < n := within_is a n h h2
theorem length_is (y m : Int) : ∃ n, interlocutorref1_Length.f y m = some n ∧ 28 ≤ n ∧ n ≤ 31 := by
  have hl : ∃ b, interlocutorref1_Leap.f y = some b := by
    unfold interlocutorref1_Leap.f
    repeat' split
    all_goals exact ⟨_, rfl⟩
  obtain ⟨b, hb⟩ := hl
  unfold interlocutorref1_Length.f
  rw [hb]
  simp only [Option.bind_some]
  repeat' split
  all_goals exact ⟨_, rfl, by omega, by omega⟩
theorem day_is (a : Int) : ∃ t, interlocutorlaw1_Day.F (a, false) = some t := by
  show ∃ t, interlocutorlaw1_Day.f a false = some t
  unfold interlocutorlaw1_Day.f
  obtain ⟨x, hx, x0, x1⟩ := within1_is (wrap64 (Int.tdiv a 400)) 9999 (by omega) (by omega)
  obtain ⟨y, hy, y0, y1⟩ := within1_is a 12 (by omega) (by omega)
  obtain ⟨n, hn, n0, n1⟩ := length_is (wrap64 (1 + x)) (wrap64 (1 + y))
  obtain ⟨z, hz, _, _⟩ := within1_is (wrap64 (Int.tdiv a 12)) n (by omega) (by omega)
  simp [hx, hy, hn, hz]
theorem ref_is (a : Int) : ∃ t, law8_Ref.F a = some t := by
  unfold law8_Ref.F law8_Ref.t
  obtain ⟨t, ht⟩ := day_is a
  obtain ⟨p, hp, _, _⟩ := within_is (wrap64 (Int.tdiv a 7)) 24 (by omega) (by omega)
  obtain ⟨q, hq, _, _⟩ := within_is (wrap64 (Int.tdiv a 11)) 60 (by omega) (by omega)
  obtain ⟨r, hr, _, _⟩ := within_is (wrap64 (Int.tdiv a 13)) 60 (by omega) (by omega)
  simp [ht, hp, hq, hr]
/-! ### A decimal -/
theorem make_is (a b : Int) : ∃ p q, interlocutorlaw2_Make.F (a, b) = some (p, q) ∧ -1000000000000000000 < p ∧ p < 1000000000000000000 ∧ 0 ≤ q ∧ q ≤ 18 := by
  have j : ∀ x : Int, -1000000000000000000 < x → x < 1000000000000000000 → ∃ p q, interlocutorlaw2_Make.j0 100 b x = some (p, q) ∧ -1000000000000000000 < p ∧ p < 1000000000000000000 ∧ 0 ≤ q ∧ q ≤ 18 := by
    intro x h0 h1
    obtain ⟨s, hs, _, _⟩ := within2_is b 11 (by omega) (by omega)
    obtain ⟨t, ht, t0, t1⟩ := within2_is (wrap64 (Int.tdiv b 7)) 19 (by omega) (by omega)
    show ∃ p q, ((interlocutorlaw2_within.f b 11).bind fun t272 => (if t272 = 0 then ((interlocutorlaw2_within.f (wrap64 (Int.tdiv b 7)) 19).bind fun t273 => (some (wrap64 ((wrap64 (Int.tdiv x 1000000)) * 1000000), t273))) else ((interlocutorlaw2_within.f (wrap64 (Int.tdiv b 7)) 19).bind fun t274 => (some (x, t274))))) = some (p, q) ∧ _
    rw [hs, ht]
    simp only [Option.bind_some]
    split
    · have h2 : 1000000 * Int.tdiv x 1000000 + Int.tmod x 1000000 = x := Int.mul_tdiv_add_tmod x 1000000
      have h3 : Int.tmod x 1000000 < 1000000 := Int.tmod_lt_of_pos x (by omega)
      have h4 : -1000000 < Int.tmod x 1000000 := by have := Int.lt_tmod_of_pos x (b := 1000000) (by omega); omega
      have h5 : 0 ≤ x → 0 ≤ Int.tmod x 1000000 := fun h => Int.tmod_nonneg 1000000 h
      have h6 : x ≤ 0 → Int.tmod x 1000000 ≤ 0 := fun h => by
        have e := Int.tmod_nonneg 1000000 (a := -x) (by omega)
        rw [Int.neg_tmod] at e; omega
      generalize Int.tdiv x 1000000 = y at *
      generalize Int.tmod x 1000000 = z at *
      refine ⟨_, _, rfl, ?_, ?_, t0, by omega⟩
      all_goals
        have y0 : -1000000000000 ≤ y ∧ y ≤ 1000000000000 := by omega
        rw [wrap_id y (by omega) (by omega), wrap_id _ (by omega) (by omega)]
        rcases Int.le_total 0 x with h | h
        · have := h5 h; omega
        · have := h6 h; omega
    · exact ⟨_, _, rfl, h0, h1, t0, by omega⟩
  show ∃ p q, interlocutorlaw2_Make.f 100 a b = some (p, q) ∧ _
  unfold interlocutorlaw2_Make.f
  obtain ⟨u, hu, _, _⟩ := within2_is b 7 (by omega) (by omega)
  obtain ⟨x, hx, x0, x1⟩ := within2_is a 2000 (by omega) (by omega)
  rw [hu, hx]
  simp only [Option.bind_some]
  split
  · exact j _ (by unfold wrap64; omega) (by unfold wrap64; omega)
  · exact j _ (by have := Int.lt_tmod_of_pos a (b := 1000000000000000000) (by omega); omega) (Int.tmod_lt_of_pos a (by omega))
/-- As Value norms it. -/
def dn : Nat → Int → Int → Option S27
  | 0, _, _ => none
  | k + 1, p, q => if q > 0 then (if p.tmod 10 = 0 then dn k (wrap64 (p.tdiv 10)) (wrap64 (q - 1)) else some ⟨7, [p, q]⟩) else some ⟨7, [p, q]⟩
theorem tmod10' (m : Int) : (Int.tmod m 10 = 0) ↔ (m % 10 = 0) := by rw [← Int.dvd_iff_tmod_eq_zero, Int.dvd_iff_emod_eq_zero]
theorem dn_is : ∀ (q : Nat) (k : Nat) (p : Int), q < k → -1000000000000000000 < p → p < 1000000000000000000 → q ≤ 18 → dn k p q = some ⟨7, [(normN q p).1, (normN q p).2]⟩
  | 0, 0, p, h, _, _, _ => absurd h (by omega)
  | 0, k + 1, p, _, _, _, _ => by simp [dn, normN]
  | q + 1, 0, p, h, _, _, _ => absurd h (by omega)
  | q + 1, k + 1, p, h, h0, h1, hq => by
    unfold dn normN
    rw [if_pos (by omega)]
    by_cases c : p % 10 = 0
    · rw [if_pos ((tmod10' p).2 c), if_pos c, tdiv10 p c, wrap_id (p / 10) (by omega) (by omega), show wrap64 (((q + 1 : Nat) : Int) - 1) = (q : Int) by rw [wrap_id _ (by omega) (by omega)]; omega]
      exact dn_is q k (p / 10) (by omega) (by omega) (by omega) (by omega)
    · rw [if_neg (fun h => c ((tmod10' p).1 h)), if_neg c]
theorem normN_is : ∀ (s : Nat) (m : Int), -1000000000000000000 < m → m < 1000000000000000000 → ∃ (m' : Int) (s' : Nat), normN s m = (m', (s' : Int)) ∧ s' ≤ s ∧ (s' = 0 ∨ m' % 10 ≠ 0) ∧ -1000000000000000000 < m' ∧ m' < 1000000000000000000
  | 0, m, h0, h1 => ⟨m, 0, rfl, Nat.le_refl _, .inl rfl, h0, h1⟩
  | s + 1, m, h0, h1 => by
    unfold normN
    by_cases c : m % 10 = 0
    · rw [if_pos c]
      obtain ⟨m', s', e, g1, g2, g3, g4⟩ := normN_is s (m / 10) (by omega) (by omega)
      exact ⟨m', s', e, by omega, g2, g3, g4⟩
    · rw [if_neg c]
      exact ⟨m, s + 1, rfl, Nat.le_refl _, .inr c, h0, h1⟩
theorem normN_id (s : Nat) (m : Int) (h : s = 0 ∨ m % 10 ≠ 0) : normN s m = (m, (s : Int)) := by
  cases s with
  | zero => rfl
  | succ s =>
    unfold normN
    rw [if_neg (by rcases h with h | h; (exact absurd h (by omega)); exact h)]
set_option maxRecDepth 100000 in
theorem value_dn (a b : Int) (x y : Int × Int × Int) (p q : Int) (hx : interlocutorlaw1_Day.F (a, false) = some x) (hy : interlocutorlaw1_Day.F (b, false) = some y) (hm : interlocutorlaw2_Make.F (a, b) = some (p, q)) : law8_Value.F (3, a, b) = dn 20 p q := by
  have hw : interlocutorlaw8_within.F (3, 7) = some 3 := by kernel_rfl
  unfold law8_Value.F law8_Value.t
  have h7 : wrap64 (4 + 3) = 7 := by kernel_rfl
  rw [hx, hy, hw]
  simp only [Option.bind_some, h7]
  rw [if_neg (by decide), if_neg (by decide), if_neg (by decide), if_pos trivial, hm, Option.bind_some]
  show _ = dn 20 p q
  kernel_rfl
/-- A decimal that Value tells. -/
theorem value_is (a b : Int) : ∃ (p : Int) (q : Nat), law8_Value.F (3, a, b) = some ⟨7, [p, (q : Int)]⟩ ∧ q ≤ 18 ∧ (q = 0 ∨ p % 10 ≠ 0) ∧ -1000000000000000000 < p ∧ p < 1000000000000000000 := by
  obtain ⟨x, hx⟩ := day_is a
  obtain ⟨y, hy⟩ := day_is b
  obtain ⟨p, q, hm, h0, h1, h2, h3⟩ := make_is a b
  obtain ⟨q, rfl⟩ := Int.eq_ofNat_of_zero_le h2
  obtain ⟨p', q', e, g1, g2, g3, g4⟩ := normN_is q p h0 h1
  refine ⟨p', q', ?_, by omega, g2, g3, g4⟩
  rw [value_dn a b x y p q hx hy hm, dn_is q 20 p (by omega) h0 h1 (by omega), e]
/-! ### Scaled, as both say it -/
def tenI : Nat → Int
  | 0 => 1
  | k + 1 => 10 * tenI k
/-- So many of a unit that stands j digits on. -/
def sc (p : Int) (q a : Nat) : Int × Bool := if a < q then (0, false) else if p > Int.tdiv 999999999999999999 (tenI (a - q)) ∨ -p > Int.tdiv 999999999999999999 (tenI (a - q)) then (0, false) else (p * tenI (a - q), true)
theorem nine (P : Nat → Prop) (h : ∀ j, j < 10 → P j) (j : Nat) (hj : j ≤ 9) : P j := h j (by omega)
theorem ten_ten : ∀ j : Nat, j < 10 → dec_ten.f 100 (j : Int) = some (tenI j) := by decide +kernel
theorem ten_ref : ∀ j : Nat, j < 10 → interlocutorref2_Ten.F (j : Int) = some (tenI j) := by
  show ∀ j : Nat, j < 10 → interlocutorref2_Ten.f 100 (j : Int) = some (tenI j)
  decide +kernel
theorem ten_pos : ∀ j, j < 10 → 1 ≤ tenI j ∧ tenI j ≤ 1000000000 ∧ 0 ≤ Int.tdiv 999999999999999999 (tenI j) ∧ Int.tdiv 999999999999999999 (tenI j) ≤ 999999999999999999 ∧ Int.tdiv 999999999999999999 (tenI j) * tenI j ≤ 999999999999999999 := by decide +kernel
theorem bound_is : dec_bound.f 100 = some 1000000000000000000 := by kernel_rfl
theorem sc_small (p : Int) (q a : Nat) (ha : a < 10) (n : Int) (h : sc p q a = (n, true)) : -1000000000000000000 < n ∧ n < 1000000000000000000 ∧ q ≤ a := by
  unfold sc at h
  split at h
  · cases h
  split at h
  · cases h
  · rename_i h1 h2
    simp only [Prod.mk.injEq, and_true] at h
    obtain ⟨t1, t2, t3, t4, t5⟩ := ten_pos (a - q) (by omega)
    generalize Int.tdiv 999999999999999999 (tenI (a - q)) = d at *
    generalize tenI (a - q) = t at *
    have u1 : p * t ≤ d * t := Int.mul_le_mul_of_nonneg_right (by omega) (by omega)
    have u2 : -p * t ≤ d * t := Int.mul_le_mul_of_nonneg_right (by omega) (by omega)
    rw [Int.neg_mul] at u2
    subst h
    omega
theorem act_scaled (p : Int) (q a : Nat) (h0 : -1000000000000000000 < p) (h1 : p < 1000000000000000000) (hq : q ≤ 18) (hn : q = 0 ∨ p % 10 ≠ 0) (ha : a < 10) : dec_Scaled.f 100 p (q : Int) (a : Int) = some (sc p q a) := by
  have hN : dec_Norm.f p (q : Int) = some (p, (q : Int)) := by
    unfold dec_Norm.f
    rw [if_pos (by omega), Int.toNat_natCast, normN_id q p hn]
  unfold dec_Scaled.f
  rw [hN]
  simp only [Option.bind_some, bound_is]
  by_cases c0 : p = 0
  · subst c0
    have hq0 : q = 0 := by rcases hn with h | h; exact h; exact absurd rfl h
    subst hq0
    rw [if_pos rfl]
    unfold sc
    obtain ⟨t1, t2, t3, t4, t5⟩ := ten_pos (a - 0) (by omega)
    rw [if_neg (by omega), if_neg (by omega), Int.zero_mul]
  rw [if_neg c0]
  by_cases c1 : (a : Int) < (q : Int)
  · rw [if_pos c1]; unfold sc; rw [if_pos (by omega)]
  rw [if_neg c1]
  have hw : wrap64 ((a : Int) - (q : Int)) = ((a - q : Nat) : Int) := by rw [wrap_id _ (by omega) (by omega)]; omega
  obtain ⟨t1, t2, t3, t4, t5⟩ := ten_pos (a - q) (by omega)
  rw [hw, if_neg (by omega), ten_ten (a - q) (by omega)]
  simp only [Option.bind_some]
  rw [if_neg (by omega), show wrap64 (1000000000000000000 - 1) = 999999999999999999 by kernel_rfl, wrap_id (Int.tdiv 999999999999999999 (tenI (a - q))) (by omega) (by omega), wrap_id (-p) (by omega) (by omega)]
  unfold sc
  rw [if_neg (show ¬ a < q by omega)]
  have hd := t5
  generalize hdd : Int.tdiv 999999999999999999 (tenI (a - q)) = d at *
  generalize htt : tenI (a - q) = t at *
  unfold mx
  by_cases c2 : p > d ∨ -p > d
  · rw [if_pos c2, if_pos (by split <;> omega)]
  · rw [if_neg c2, if_neg (by split <;> omega)]
    have u1 : p * t ≤ d * t := Int.mul_le_mul_of_nonneg_right (by omega) (by omega)
    have u2 : -p * t ≤ d * t := Int.mul_le_mul_of_nonneg_right (by omega) (by omega)
    rw [Int.neg_mul] at u2
    rw [wrap_id (p * t) (by omega) (by omega)]
theorem nrm_id (p : Int) (q : Nat) (h0 : -1000000000000000000 < p) (h1 : p < 1000000000000000000) (hn : q = 0 ∨ p % 10 ≠ 0) : interlocutorref2_Norm.F (p, (q : Int)) = some (p, (q : Int)) := by
  show (if (q : Int) > 0 then (if (Int.tmod p 10) = 0 then (interlocutorref2_Norm.l0 99 (wrap64 (Int.tdiv p 10)) (wrap64 ((q : Int) - 1))) else (some (p, (q : Int)))) else (some (p, (q : Int)))) = _
  by_cases c : (q : Int) > 0
  · rw [if_pos c, if_neg (fun h => by
      have := (tmod10' p).1 h
      rcases hn with hn | hn
      · omega
      · exact hn this)]
  · rw [if_neg c]
theorem ref_scaled (p : Int) (q a : Nat) (h0 : -1000000000000000000 < p) (h1 : p < 1000000000000000000) (hq : q ≤ 18) (hn : q = 0 ∨ p % 10 ≠ 0) (ha : a < 10) : ref2_Scaled.F (p, (q : Int), (a : Int)) = some (sc p q a) := by
  unfold ref2_Scaled.F ref2_Scaled.t
  simp only [nrm_id p q h0 h1 hn, Option.bind_some]
  by_cases c1 : (q : Int) > (a : Int)
  · rw [if_pos c1]; unfold sc; rw [if_pos (by omega)]
  rw [if_neg c1]
  have hw : wrap64 ((a : Int) - (q : Int)) = ((a - q : Nat) : Int) := by rw [wrap_id _ (by omega) (by omega)]; omega
  obtain ⟨t1, t2, t3, t4, t5⟩ := ten_pos (a - q) (by omega)
  rw [hw, ten_ref (a - q) (by omega)]
  simp only [Option.bind_some]
  unfold sc
  have ht0 : ¬ tenI (a - q) = 0 := by omega
  have hW := wrap_id (Int.tdiv 999999999999999999 (tenI (a - q))) (by omega) (by omega)
  have hp := wrap_id (0 - p) (by omega) (by omega)
  rw [if_neg (show ¬ a < q by omega)]
  simp only [if_neg ht0, hW, hp]
  clear hW ht0
  generalize hdd : Int.tdiv 999999999999999999 (tenI (a - q)) = d at *
  generalize htt : tenI (a - q) = t at *
  have fin : ¬ (p > d ∨ -p > d) → wrap64 (p * t) = p * t := fun c2 => by
    have u1 : p * t ≤ d * t := Int.mul_le_mul_of_nonneg_right (by omega) (by omega)
    have u2 : -p * t ≤ d * t := Int.mul_le_mul_of_nonneg_right (by omega) (by omega)
    rw [Int.neg_mul] at u2
    exact wrap_id (p * t) (by omega) (by omega)
  by_cases c2 : p > d ∨ -p > d
  · rw [if_pos c2]
    split
    · rw [if_pos (by omega)]
    · rw [if_pos (by omega)]
  · rw [if_neg c2, fin c2]
    split
    · rw [if_neg (by omega)]
    · rw [if_neg (by omega)]
/-! ### What is made -/
theorem act_do (k p : Int) (q : Nat) (t : Mom) (hk : 0 ≤ k) (hk2 : k < 10000) (h0 : -1000000000000000000 < p) (h1 : p < 1000000000000000000) (hq : q ≤ 18) (hn : q = 0 ∨ p % 10 ≠ 0) :
    act_Do.F (⟨12, [0, 1]⟩, [⟨2, [k]⟩, ⟨7, [p, (q : Int)]⟩], t) = some (if (sc p q (k.tmod 10).toNat).2 = true then (⟨8, [k, (sc p q (k.tmod 10).toNat).1]⟩, true) else (⟨0, []⟩, false)) := by
  have ha : k.tmod 10 = (((k.tmod 10).toNat : Nat) : Int) := by have := Int.tmod_nonneg 10 hk; omega
  have ha2 : (k.tmod 10).toNat < 10 := by have := Int.tmod_lt_of_pos k (b := 10) (by omega); omega
  have hs := act_scaled p q (k.tmod 10).toNat h0 h1 hq hn ha2
  have hw : act_maker_word.f 12 [⟨2, [k]⟩, ⟨7, [p, (q : Int)]⟩] t.1 t.2.1 t.2.2.1 t.2.2.2.1 t.2.2.2.2.1 t.2.2.2.2.2 0 = some k := by
    simp [act_maker_word.f, act_maker_of.f, act_must.f, rd_T27, rd]
  have hm : act_maker_money.f 100 12 [⟨2, [k]⟩, ⟨7, [p, (q : Int)]⟩] t.1 t.2.1 t.2.2.1 t.2.2.2.1 t.2.2.2.2.1 t.2.2.2.2.2 = some (if (sc p q (k.tmod 10).toNat).2 = true then some (8, [k, (sc p q (k.tmod 10).toNat).1]) else none) := by
    unfold act_maker_money.f
    rw [hw]
    simp only [Option.bind_some]
    rw [if_pos (by simp [rd_T27, hk])]
    have e1 : rd (rd_T27 [⟨2, [k]⟩, ⟨7, [p, (q : Int)]⟩] 1).f1 0 = p := rfl
    have e2 : rd (rd_T27 [⟨2, [k]⟩, ⟨7, [p, (q : Int)]⟩] 1).f1 1 = (q : Int) := rfl
    rw [e1, e2, ha, hs]
    simp only [Option.bind_some, ← ha]
    split <;> rfl
  have hf : act_fields.f 8 = some 2 := by kernel_rfl
  have hg : act_Do.g 100 12 [0, 1] [⟨2, [k]⟩, ⟨7, [p, (q : Int)]⟩] t.1 t.2.1 t.2.2.1 t.2.2.2.1 t.2.2.2.2.1 t.2.2.2.2.2 = some (if (sc p q (k.tmod 10).toNat).2 = true then some (8, [k, (sc p q (k.tmod 10).toNat).1]) else none) := by
    unfold act_Do.g
    rw [if_neg (by decide), if_pos rfl]
    exact hm
  unfold act_Do.F act_Do.f
  rw [if_pos (by refine ⟨by simp, ?_, (by decide : (12 : Int) ≠ 0)⟩; intro x hx; simp at hx; rcases hx with rfl | rfl <;> simp), hg]
  cases hc : sc p q (k.tmod 10).toNat with
  | mk n b =>
    cases b with
    | false => rfl
    | true =>
      obtain ⟨g0, g1, _⟩ := sc_small p q _ ha2 n hc
      have hr : act_Right.f 8 [k, n] = some true := by
        unfold act_Right.f
        rw [hf]
        simp [rd]
        rw [if_pos hk, if_pos (by omega), if_pos g0]
        simp [g1]
      simp only [if_true, Option.bind_some, Option.isSome_some, dite_true, Option.get_some, hr]
      rfl
theorem right_dec (p : Int) (q : Nat) (h0 : -1000000000000000000 < p) (h1 : p < 1000000000000000000) (hq : q ≤ 18) (hn : q = 0 ∨ p % 10 ≠ 0) : ref8_Right.F ⟨7, [p, (q : Int)]⟩ = some true := by
  have hf : ref8_fields.F 7 = some 2 := by kernel_rfl
  have hr : interlocutorref2_Right.F (p, (q : Int)) = some true := by
    show interlocutorref2_Right.f 100 p (q : Int) = some true
    unfold interlocutorref2_Right.f
    rw [if_neg (by omega), if_neg (by omega), if_neg (by omega), if_neg (by omega), show interlocutorref2_Norm.f 100 p (q : Int) = some (p, (q : Int)) from nrm_id p q h0 h1 hn]
    simp
  unfold ref8_Right.F ref8_Right.t
  simp [hf, hr, rd, bm]
theorem right_money (k n : Int) (hk : 0 ≤ k) (hk2 : k < 10000) (g0 : -1000000000000000000 < n) (g1 : n < 1000000000000000000) : ref8_Right.F ⟨8, [k, n]⟩ = some true := by
  have hf : ref8_fields.F 8 = some 2 := by kernel_rfl
  unfold ref8_Right.F ref8_Right.t
  simp only [hf, Option.bind_some]
  simp [rd, bm, if_pos hk, if_pos (show k ≤ 1000000000 by omega), if_pos g0, if_pos g1]
theorem ref_do (k p : Int) (q : Nat) (t : Mom) (hk : 0 ≤ k) (hk2 : k < 10000) (h0 : -1000000000000000000 < p) (h1 : p < 1000000000000000000) (hq : q ≤ 18) (hn : q = 0 ∨ p % 10 ≠ 0) :
    ref8_Do.F (⟨12, [0, 1]⟩, [⟨2, [k]⟩, ⟨7, [p, (q : Int)]⟩], t) = some (if (sc p q (k.tmod 10).toNat).2 = true then (⟨8, [k, (sc p q (k.tmod 10).toNat).1]⟩, true) else (⟨0, []⟩, false)) := by
  have ha : k.tmod 10 = (((k.tmod 10).toNat : Nat) : Int) := by have := Int.tmod_nonneg 10 hk; omega
  have ha2 : (k.tmod 10).toNat < 10 := by have := Int.tmod_lt_of_pos k (b := 10) (by omega); omega
  have hs := ref_scaled p q (k.tmod 10).toNat h0 h1 hq hn ha2
  rw [← ha] at hs
  have hw : ref8_word.F ⟨2, [k]⟩ = some (k, true) := by simp [ref8_word.F, ref8_word.t, rd]
  have hr := right_dec p q h0 h1 hq hn
  have hp : ref8_paid.F [⟨2, [k]⟩, ⟨7, [p, (q : Int)]⟩] = some (⟨8, [k, (sc p q (k.tmod 10).toNat).1]⟩, (sc p q (k.tmod 10).toNat).2) := by
    unfold ref8_paid.F ref8_paid.t
    have e0 : rd_T27 [⟨2, [k]⟩, ⟨7, [p, (q : Int)]⟩] 0 = ⟨2, [k]⟩ := rfl
    have e1 : rd_T27 [⟨2, [k]⟩, ⟨7, [p, (q : Int)]⟩] 1 = ⟨7, [p, (q : Int)]⟩ := rfl
    have e2 : rd [p, (q : Int)] 0 = p := rfl
    have e3 : rd [p, (q : Int)] 1 = (q : Int) := rfl
    simp only [e0, e1, e2, e3, hw, hr, hs, Option.bind_some, bm]
    rw [if_pos (by simp), if_neg (by omega)]
    simp only [List.length_cons, List.length_nil]
    cases hb : (sc p q (k.tmod 10).toNat).2 <;> simp [hb]
  have hmo : ref8_more.F (12, [⟨2, [k]⟩, ⟨7, [p, (q : Int)]⟩]) = some (⟨8, [k, (sc p q (k.tmod 10).toNat).1]⟩, (sc p q (k.tmod 10).toNat).2) := by
    unfold ref8_more.F ref8_more.t
    rw [if_neg (by decide : ¬ (12 : Int) = 11), if_pos rfl, hp]
    cases hb : (sc p q (k.tmod 10).toNat).2 <;> simp [hb, bm]
  have hma : ref8_made.F (12, [⟨2, [k]⟩, ⟨7, [p, (q : Int)]⟩], t) = some (⟨8, [k, (sc p q (k.tmod 10).toNat).1]⟩, (sc p q (k.tmod 10).toNat).2) := by
    unfold ref8_made.F ref8_made.t
    simp only [hmo, Option.bind_some, bm]
    cases hb : (sc p q (k.tmod 10).toNat).2 <;> simp [hb]
  unfold ref8_Do.F ref8_Do.t
  have e0 : rd [0, 1] 0 = 0 := rfl
  have e1 : rd [0, 1] 1 = 1 := rfl
  have e2 : rd_T27 [⟨2, [k]⟩, ⟨7, [p, (q : Int)]⟩] 0 = ⟨2, [k]⟩ := rfl
  have e3 : rd_T27 [⟨2, [k]⟩, ⟨7, [p, (q : Int)]⟩] 1 = ⟨7, [p, (q : Int)]⟩ := rfl
  simp [e0, e1, e2, e3, hma, bm]
  cases hc : sc p q (k.tmod 10).toNat with
  | mk n b =>
    cases b with
    | false => simp
    | true =>
      obtain ⟨g0, g1, _⟩ := sc_small p q _ ha2 n hc
      simp [right_money k n hk hk2 g0 g1]
theorem order_same (a : Int) : ref10_order.F (a, a) = some 0 := by
  unfold ref10_order.F ref10_order.t
  simp
theorem cmp_two (k a b : Int) : ref10_Cmp.F (⟨k, [a, b]⟩, ⟨k, [a, b]⟩) = some 0 := by
  simp [ref10_Cmp.F, ref10_Cmp.t, order_same, rd]
theorem cmp_nil (k : Int) : ref10_Cmp.F (⟨k, []⟩, ⟨k, []⟩) = some 0 := by
  simp [ref10_Cmp.F, ref10_Cmp.t, order_same, rd]
theorem ActMoney_true (c m s : Int) : ActMoney.F (c, m, s) = some true := by
  obtain ⟨k, hk, k0, k1⟩ := within_is c 10000 (by omega) (by omega)
  obtain ⟨p, q, hv, hq, hn, p0, p1⟩ := value_is m s
  obtain ⟨t, ht⟩ := ref_is c
  have ha : k.tmod 10 = (((k.tmod 10).toNat : Nat) : Int) := by have := Int.tmod_nonneg 10 k0; omega
  have ha2 : (k.tmod 10).toNat < 10 := by have := Int.tmod_lt_of_pos k (b := 10) (by omega); omega
  have h1 := act_do k p q t k0 k1 p0 p1 hq hn
  have h2 := ref_do k p q t k0 k1 p0 p1 hq hn
  unfold ActMoney.F ActMoney.t
  simp only [law8_known.F, hk, hv, ht, Option.bind_some, bm]
  cases hc : sc p q (k.tmod 10).toNat with
  | mk n b =>
    rw [hc] at h1 h2
    cases b with
    | false =>
      simp only [if_false, Bool.false_eq_true] at h1 h2
      rw [h1]
      simp only [Option.bind_some]
      rw [h2]
      simp only [Option.bind_some, cmp_nil, if_true]
    | true =>
      obtain ⟨g0, g1, g2⟩ := sc_small p q _ ha2 n hc
      simp only [if_true] at h1 h2
      rw [h1]
      simp only [Option.bind_some]
      rw [h2]
      simp only [Option.bind_some, cmp_two, if_true]
      simp [rd]
      omega
/-- The law's call. -/
theorem ActMoney_walk (c m s : Int) (W : World) : Calls Try.prog 10 #[.int .i64 c, .int .i64 m, .int .i64 s] W fun e W' => e = .returned (.bool true) ∧ Below W.heap.size W W' := by
  obtain ⟨out, ho, _, hc⟩ := ActMoney.good.calls [.ce (.int .i64 c), .ce (.int .i64 m), .ce (.int .i64 s)] some (.ret (.one (.ce (.bool true)))) (by
    unfold sp
    rw [show (oc sI (oc sI (o1 sI))).dec [.ce (.int .i64 c), .ce (.int .i64 m), .ce (.int .i64 s)] = some (c, m, s) from rfl]
    simp only [ActMoney_true]
    rfl)
  obtain rfl := Option.some.inj ho
  refine (hc ⟨fun _ => False, fun _ => undef⟩ W #[.int .i64 c, .int .i64 m, .int .i64 s] (fun _ h => h.elim) ⟨rfl, rfl, rfl, trivial⟩).mono ?_
  rintro e W' ⟨⟨v, rfl, hv⟩, hb⟩
  exact ⟨by rw [show v = .bool true from hv], hb⟩
end Ev
end Go.Proofs.Ytldfljlklfhjkaa.PE
