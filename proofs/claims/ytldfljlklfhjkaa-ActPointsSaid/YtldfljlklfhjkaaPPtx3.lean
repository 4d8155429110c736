/- Each call of a function that is printed here answers what its plain Lean function answers; written by a program of this session (wip/myprint.py) over the kit's print. Conditions: that the plain function answers. -/
import Derived.Test.YtldfljlklfhjkaaPPtx0
namespace Go.Proofs.Ytldfljlklfhjkaa.PPt
open Go.RowKit Go.Proofs.YtldfljlklfhjkaaW.PrintWords Go.Proofs.YtldfljlklfhjkaaW.PrintLast Go.Proofs.YtldfljlklfhjkaaW.PrintMore
attribute [local go_sem] max2_int min2_int max_two min_two max_three min_three max_four min_four   -- for this text's walks alone
set_option linter.unusedVariables false
set_option linter.unusedSimpArgs false

/-! ### dec_Norm: function 86 -/
/-- A decimal's noughts, struck. -/
def normN : Nat → Int → Int × Int
  | 0, m => (m, 0)
  | s + 1, m => if m % 10 = 0 then normN s (m / 10) else (m, ((s + 1 : Nat) : Int))
def dec_Norm.f (a0 : Int) (a1 : Int) : Option (Int × Int) := if -9223372036854775808 ≤ a0 ∧ a0 ≤ 9223372036854775807 ∧ a1 ≤ 9223372036854775807 then some (normN a1.toNat a0) else none
theorem tmod10 (m : Int) : (Int.tmod m 10 == 0) = (m % 10 == 0) := by
  rw [Bool.eq_iff_iff, beq_iff_eq, beq_iff_eq, ← Int.dvd_iff_tmod_eq_zero, Int.dvd_iff_emod_eq_zero]
theorem tdiv10 (m : Int) (h : m % 10 = 0) : Int.tdiv m 10 = m / 10 := Int.tdiv_eq_ediv_of_dvd (Int.dvd_of_emod_eq_zero h)
theorem norm_zero (a0 a1 : Int) (w : World) (h : a1 ≤ 0) : Calls Try.prog 86 #[.int .i64 a0, .int .i64 a1] w fun e w' => e = .returned (.tuple #[.int .i64 a0, .int .i64 0]) ∧ w = w' := by
  go_enter Try.func86, Try.ntmps86
  go_wp2
  refine wp_scope_jumps 0 (fun _ _ => False) (fun _ _ => 0) rfl ?_ (fun _ _ h => h.elim)
  go_wp2
  go_step3
  go_wp2
  all_goals
    simp only [Exit.jump]
    go_ret2
  · exact ⟨rfl, rfl⟩
  · rename_i h1 _ h2
    obtain rfl : a1 = 0 := by omega
    exact ⟨rfl, rfl⟩
theorem normN_hit (s : Nat) (m : Int) (h : m % 10 = 0) : normN (s + 1) m = normN s (m / 10) := by rw [normN, if_pos h]
theorem normN_miss (s : Nat) (m : Int) (h : ¬ m % 10 = 0) : normN (s + 1) m = (m, ((s + 1 : Nat) : Int)) := by rw [normN, if_neg h]
set_option maxHeartbeats 800000 in
set_option maxRecDepth 100000 in
theorem norm_some (s0 : Nat) (m0 : Int) (w : World) (hs : (s0 : Int) ≤ 9223372036854775807) (b1 : -9223372036854775808 ≤ m0) (b2 : m0 ≤ 9223372036854775807) :
    Calls Try.prog 86 #[.int .i64 m0, .int .i64 s0] w fun e w' => e = .returned (.tuple #[.int .i64 (normN s0 m0).1, .int .i64 (normN s0 m0).2]) ∧ w = w' := by
  go_enter Try.func86, Try.ntmps86
  go_wp2
  refine wp_scope_jumps 0 (fun a' w' => w = w' ∧ ∃ (s : Nat) (m : Int) (u6 u7 u8 u9 u10 u11 u12 u13 u14 u15 u16 : Value), a' = { tmps := #[.int .i64 m, .int .i64 s, undef, undef, .int .i64 0, .int .i64 0, u6, u7, u8, u9, u10, u11, u12, u13, u14, u15, u16, undef, undef, undef], defers := [] } ∧ Hid (normN s m = normN s0 m0) ∧ (s : Int) ≤ 9223372036854775807 ∧ -9223372036854775808 ≤ m ∧ m ≤ 9223372036854775807) (fun a' _ => (intOf (a'.tmps.getD 1 undef)).toNat) rfl ?_ ?_
  · go_wp2
    go_step3
    cases s0 with
    | zero =>
      go_wp2
      simp only [Exit.jump]
      go_ret2
      exact ⟨rfl, rfl⟩
    | succ s =>
      by_cases hz : m0 % 10 = 0
      · have h1 := Lib.hid (normN_hit s m0 hz)
        have e0 : (Int.tmod m0 10 == 0) = true := by rw [tmod10, hz]; rfl
        have e1 := tdiv10 m0 hz
        go_wp2
        go_step3
        exact ⟨rfl, rfl, s, m0 / 10, _, _, _, _, _, _, _, _, _, _, _, rfl, h1.out.symm, by omega, by omega, by omega⟩
      · have h1 := Lib.hid (normN_miss s m0 hz)
        have e0 : (Int.tmod m0 10 == 0) = false := by rw [tmod10]; exact beq_eq_false_iff_ne.mpr hz
        go_wp2
        simp only [Exit.jump]
        go_ret2
        exact ⟨by rw [h1.out]; rfl, rfl⟩
  · rintro a' w' ⟨rfl, s, m, u6, u7, u8, u9, u10, u11, u12, u13, u14, u15, u16, rfl, hn, hs', c1, c2⟩
    cases s with
    | zero =>
      go_wp2
      simp only [Exit.jump]
      go_ret2
      exact ⟨by rw [← hn.out]; rfl, rfl⟩
    | succ s =>
      by_cases hz : m % 10 = 0
      · have h1 := Lib.hid (normN_hit s m hz)
        have e0 : (Int.tmod m 10 == 0) = true := by rw [tmod10, hz]; rfl
        have e1 := tdiv10 m hz
        go_wp2
        go_step3
        refine ⟨rfl, ⟨rfl, s, m / 10, _, _, _, _, _, _, _, _, _, _, _, rfl, h1.out.symm.trans hn.out, by omega, by omega, by omega⟩, ?_⟩
        simp [intOf]
      · have h1 := Lib.hid (normN_miss s m hz)
        have e0 : (Int.tmod m 10 == 0) = false := by rw [tmod10]; exact beq_eq_false_iff_ne.mpr hz
        go_wp2
        simp only [Exit.jump]
        go_ret2
        exact ⟨by rw [← hn.out, h1.out]; rfl, rfl⟩
theorem dec_Norm.calls (a0 : Int) (a1 : Int) (r1 : Int) (r2 : Int) (w : World) (h : dec_Norm.f a0 a1 = some (r1, r2)) :
    Calls Try.prog 86 #[.int .i64 a0, .int .i64 a1] w fun e w' => e = .returned (.tuple #[.int .i64 r1, .int .i64 r2]) ∧ Drawn0 w w' := by
  unfold dec_Norm.f at h
  split at h
  · rename_i hb
    have h := Option.some.inj h
    by_cases hz : a1 ≤ 0
    · rw [show a1.toNat = 0 by omega, normN] at h
      injection h with h1 h2
      subst h1; subst h2
      exact (norm_zero a0 a1 w hz).mono fun e w' ⟨he, hw⟩ => ⟨he, hw ▸ Drawn0.refl _⟩
    · obtain ⟨s, rfl⟩ := Int.eq_ofNat_of_zero_le (show 0 ≤ a1 by omega)
      rw [Int.toNat_natCast] at h
      have := norm_some s a0 w (by omega) hb.1 hb.2.1
      rw [h] at this
      exact this.mono fun e w' ⟨he, hw⟩ => ⟨he, hw ▸ Drawn0.refl _⟩
  · cases h


/-! ### act_decimal: function 47 -/
def act_decimal.f (l0 : List Int) : Option (Bool) := if 0 < (l0.length : Int) then (if (rd l0 0) ≤ (-1000000000000000000) then (some false) else (if (rd l0 0) ≥ 1000000000000000000 then (some false) else (if 1 < (l0.length : Int) then (if (rd l0 1) < 0 then (some false) else (if (rd l0 1) > 18 then (some false) else ((dec_Norm.f (rd l0 0) (rd l0 1)).bind fun bt120 => (if bt120.1 = (rd l0 0) then (some (bt120.2 == (rd l0 1))) else (some false))))) else (none)))) else (none)
set_option maxHeartbeats 8000000 in
set_option maxRecDepth 100000 in
theorem act_decimal.calls (A0 : Option Addr) (c0 : Nat) (l0 : List Int) (r : Bool) (w : World) (hr0 : Kd.C (Kd.int .i64) w A0 l0.length l0) (hc0 : l0.length ≤ c0) (h : act_decimal.f l0 = some r) :
    Calls Try.prog 47 #[.slice A0 l0.length c0] w fun e w' => e = .returned (.bool r) ∧ Drawn0 w w' := by
  have HR0 := Aside0.mk hr0
  have HC0 := Aside0.mk hc0
  clear hr0 hc0
  have H : (if 0 < (l0.length : Int) then (if (rd l0 0) ≤ (-1000000000000000000) then (some false) else (if (rd l0 0) ≥ 1000000000000000000 then (some false) else (if 1 < (l0.length : Int) then (if (rd l0 1) < 0 then (some false) else (if (rd l0 1) > 18 then (some false) else ((dec_Norm.f (rd l0 0) (rd l0 1)).bind fun bt120 => (if bt120.1 = (rd l0 0) then (some (bt120.2 == (rd l0 1))) else (some false))))) else (none)))) else (none)) = some r := h
  clear h
  by_cases c2 : 0 < (l0.length : Int)
  · rw [if_pos c2] at H
    have c2b0 : decide (0 < (l0.length : Int)) = true := decide_eq_true c2
    have c2b1 : decide (0 < l0.length) = true := decide_eq_true (by omega)
    clear c2
    by_cases c3 : (rd l0 0) ≤ (-1000000000000000000)
    · rw [if_pos c3] at H
      have c3b0 : decide ((rd l0 0) ≤ (-1000000000000000000)) = true := decide_eq_true c3
      clear c3
      obtain rfl := Option.some.inj H
      have p114 : 0 ≤ (0 : Int) := (by omega)
      have q114 : 0 < (l0.length : Int) := of_decide_eq_true (by first | (with_reducible assumption) | assumption)
      obtain ⟨ad114, e114, hx114_0⟩ := Kd.at_int HR0.out 0 p114 q114
      cases e114
      have qi114 : (0 < l0.length) = True := eq_true (by omega)
      (try rw [show ((0 : Int)).toNat = 0 from rfl] at hx114_0)
      (try rw [Addr.add_zero'] at hx114_0)
      replace p114 := eq_true p114
      replace q114 := eq_true q114
      go_enter Try.func47, Try.ntmps47
      go_wp2
      repeat (go_quiet (fail); try go_wp2)
      go_ret
      exact ⟨by first | rfl | (simp; done) | (simp [*]; done), by repeat (first | exact Drawn0.refl _ | apply Drawn0.step)⟩
    · rw [if_neg c3] at H
      have c3b0 : decide ((rd l0 0) ≤ (-1000000000000000000)) = false := decide_eq_false c3
      clear c3
      by_cases c4 : (rd l0 0) ≥ 1000000000000000000
      · rw [if_pos c4] at H
        have c4b0 : decide (1000000000000000000 ≤ (rd l0 0)) = true := decide_eq_true c4
        clear c4
        obtain rfl := Option.some.inj H
        have p114 : 0 ≤ (0 : Int) := (by omega)
        have q114 : 0 < (l0.length : Int) := of_decide_eq_true (by first | (with_reducible assumption) | assumption)
        obtain ⟨ad114, e114, hx114_0⟩ := Kd.at_int HR0.out 0 p114 q114
        cases e114
        have qi114 : (0 < l0.length) = True := eq_true (by omega)
        (try rw [show ((0 : Int)).toNat = 0 from rfl] at hx114_0)
        (try rw [Addr.add_zero'] at hx114_0)
        replace p114 := eq_true p114
        replace q114 := eq_true q114
        have p115 : 0 ≤ (0 : Int) := (by omega)
        have q115 : 0 < (l0.length : Int) := of_decide_eq_true (by first | (with_reducible assumption) | assumption)
        obtain ⟨ad115, e115, hx115_0⟩ := Kd.at_int HR0.out 0 p115 q115
        obtain rfl : ad114 = ad115 := (by injection e115)
        have qi115 : (0 < l0.length) = True := eq_true (by omega)
        (try rw [show ((0 : Int)).toNat = 0 from rfl] at hx115_0)
        (try rw [Addr.add_zero'] at hx115_0)
        replace p115 := eq_true p115
        replace q115 := eq_true q115
        go_enter Try.func47, Try.ntmps47
        go_wp2
        repeat (go_quiet (fail); try go_wp2)
        go_ret
        exact ⟨by first | rfl | (simp; done) | (simp [*]; done), by repeat (first | exact Drawn0.refl _ | apply Drawn0.step)⟩
      · rw [if_neg c4] at H
        have c4b0 : decide (1000000000000000000 ≤ (rd l0 0)) = false := decide_eq_false c4
        clear c4
        by_cases c5 : 1 < (l0.length : Int)
        · rw [if_pos c5] at H
          have c5b0 : decide (1 < (l0.length : Int)) = true := decide_eq_true c5
          have c5b1 : decide (1 < l0.length) = true := decide_eq_true (by omega)
          clear c5
          by_cases c6 : (rd l0 1) < 0
          · rw [if_pos c6] at H
            have c6b0 : decide ((rd l0 1) < 0) = true := decide_eq_true c6
            clear c6
            obtain rfl := Option.some.inj H
            have p114 : 0 ≤ (0 : Int) := (by omega)
            have q114 : 0 < (l0.length : Int) := of_decide_eq_true (by first | (with_reducible assumption) | assumption)
            obtain ⟨ad114, e114, hx114_0⟩ := Kd.at_int HR0.out 0 p114 q114
            cases e114
            have qi114 : (0 < l0.length) = True := eq_true (by omega)
            (try rw [show ((0 : Int)).toNat = 0 from rfl] at hx114_0)
            (try rw [Addr.add_zero'] at hx114_0)
            replace p114 := eq_true p114
            replace q114 := eq_true q114
            have p115 : 0 ≤ (0 : Int) := (by omega)
            have q115 : 0 < (l0.length : Int) := of_decide_eq_true (by first | (with_reducible assumption) | assumption)
            obtain ⟨ad115, e115, hx115_0⟩ := Kd.at_int HR0.out 0 p115 q115
            obtain rfl : ad114 = ad115 := (by injection e115)
            have qi115 : (0 < l0.length) = True := eq_true (by omega)
            (try rw [show ((0 : Int)).toNat = 0 from rfl] at hx115_0)
            (try rw [Addr.add_zero'] at hx115_0)
            replace p115 := eq_true p115
            replace q115 := eq_true q115
            have p116 : 0 ≤ (1 : Int) := (by omega)
            have q116 : 1 < (l0.length : Int) := of_decide_eq_true (by first | (with_reducible assumption) | assumption)
            obtain ⟨ad116, e116, hx116_0⟩ := Kd.at_int HR0.out 1 p116 q116
            obtain rfl : ad114 = ad116 := (by injection e116)
            (try simp only [show (1 : Int).toNat = 1 from rfl, Nat.reduceMul, Nat.reduceEqDiff, Go.Addr.add, ↓reduceIte] at hx116_0)
            have qi116 : (1 < l0.length) = True := eq_true (by omega)
            (try rw [show ((1 : Int)).toNat = 1 from rfl] at hx116_0)
            replace p116 := eq_true p116
            replace q116 := eq_true q116
            go_enter Try.func47, Try.ntmps47
            go_wp2
            repeat (go_quiet (fail); try go_wp2)
            go_ret
            exact ⟨by first | rfl | (simp; done) | (simp [*]; done), by repeat (first | exact Drawn0.refl _ | apply Drawn0.step)⟩
          · rw [if_neg c6] at H
            have c6b0 : decide ((rd l0 1) < 0) = false := decide_eq_false c6
            clear c6
            by_cases c7 : (rd l0 1) > 18
            · rw [if_pos c7] at H
              have c7b0 : decide (18 < (rd l0 1)) = true := decide_eq_true c7
              clear c7
              obtain rfl := Option.some.inj H
              have p114 : 0 ≤ (0 : Int) := (by omega)
              have q114 : 0 < (l0.length : Int) := of_decide_eq_true (by first | (with_reducible assumption) | assumption)
              obtain ⟨ad114, e114, hx114_0⟩ := Kd.at_int HR0.out 0 p114 q114
              cases e114
              have qi114 : (0 < l0.length) = True := eq_true (by omega)
              (try rw [show ((0 : Int)).toNat = 0 from rfl] at hx114_0)
              (try rw [Addr.add_zero'] at hx114_0)
              replace p114 := eq_true p114
              replace q114 := eq_true q114
              have p115 : 0 ≤ (0 : Int) := (by omega)
              have q115 : 0 < (l0.length : Int) := of_decide_eq_true (by first | (with_reducible assumption) | assumption)
              obtain ⟨ad115, e115, hx115_0⟩ := Kd.at_int HR0.out 0 p115 q115
              obtain rfl : ad114 = ad115 := (by injection e115)
              have qi115 : (0 < l0.length) = True := eq_true (by omega)
              (try rw [show ((0 : Int)).toNat = 0 from rfl] at hx115_0)
              (try rw [Addr.add_zero'] at hx115_0)
              replace p115 := eq_true p115
              replace q115 := eq_true q115
              have p116 : 0 ≤ (1 : Int) := (by omega)
              have q116 : 1 < (l0.length : Int) := of_decide_eq_true (by first | (with_reducible assumption) | assumption)
              obtain ⟨ad116, e116, hx116_0⟩ := Kd.at_int HR0.out 1 p116 q116
              obtain rfl : ad114 = ad116 := (by injection e116)
              (try simp only [show (1 : Int).toNat = 1 from rfl, Nat.reduceMul, Nat.reduceEqDiff, Go.Addr.add, ↓reduceIte] at hx116_0)
              have qi116 : (1 < l0.length) = True := eq_true (by omega)
              (try rw [show ((1 : Int)).toNat = 1 from rfl] at hx116_0)
              replace p116 := eq_true p116
              replace q116 := eq_true q116
              have p117 : 0 ≤ (1 : Int) := (by omega)
              have q117 : 1 < (l0.length : Int) := of_decide_eq_true (by first | (with_reducible assumption) | assumption)
              obtain ⟨ad117, e117, hx117_0⟩ := Kd.at_int HR0.out 1 p117 q117
              obtain rfl : ad114 = ad117 := (by injection e117)
              (try simp only [show (1 : Int).toNat = 1 from rfl, Nat.reduceMul, Nat.reduceEqDiff, Go.Addr.add, ↓reduceIte] at hx117_0)
              have qi117 : (1 < l0.length) = True := eq_true (by omega)
              (try rw [show ((1 : Int)).toNat = 1 from rfl] at hx117_0)
              replace p117 := eq_true p117
              replace q117 := eq_true q117
              go_enter Try.func47, Try.ntmps47
              go_wp2
              repeat (go_quiet (fail); try go_wp2)
              go_ret
              exact ⟨by first | rfl | (simp; done) | (simp [*]; done), by repeat (first | exact Drawn0.refl _ | apply Drawn0.step)⟩
            · rw [if_neg c7] at H
              have c7b0 : decide (18 < (rd l0 1)) = false := decide_eq_false c7
              clear c7
              replace H := Option.bind_eq_some_iff.mp H
              obtain ⟨⟨t120, t121⟩, A80, H⟩ := H
              replace H : (if t120 = (rd l0 0) then (some (t121 == (rd l0 1))) else (some false)) = some r := H
              have A8 := Aside0.mk A80
              clear A80
              by_cases c9 : t120 = (rd l0 0)
              · rw [if_pos c9] at H
                have c9b0 : (t120 == (rd l0 0)) = true := beq_iff_eq.mpr c9
                have c9b1 : (t120 != (rd l0 0)) = false := bne_eq_false_iff_eq.mpr c9
                clear c9
                obtain rfl := Option.some.inj H
                have p114 : 0 ≤ (0 : Int) := (by omega)
                have q114 : 0 < (l0.length : Int) := of_decide_eq_true (by first | (with_reducible assumption) | assumption)
                obtain ⟨ad114, e114, hx114_0⟩ := Kd.at_int HR0.out 0 p114 q114
                cases e114
                have qi114 : (0 < l0.length) = True := eq_true (by omega)
                (try rw [show ((0 : Int)).toNat = 0 from rfl] at hx114_0)
                (try rw [Addr.add_zero'] at hx114_0)
                replace p114 := eq_true p114
                replace q114 := eq_true q114
                have p115 : 0 ≤ (0 : Int) := (by omega)
                have q115 : 0 < (l0.length : Int) := of_decide_eq_true (by first | (with_reducible assumption) | assumption)
                obtain ⟨ad115, e115, hx115_0⟩ := Kd.at_int HR0.out 0 p115 q115
                obtain rfl : ad114 = ad115 := (by injection e115)
                have qi115 : (0 < l0.length) = True := eq_true (by omega)
                (try rw [show ((0 : Int)).toNat = 0 from rfl] at hx115_0)
                (try rw [Addr.add_zero'] at hx115_0)
                replace p115 := eq_true p115
                replace q115 := eq_true q115
                have p116 : 0 ≤ (1 : Int) := (by omega)
                have q116 : 1 < (l0.length : Int) := of_decide_eq_true (by first | (with_reducible assumption) | assumption)
                obtain ⟨ad116, e116, hx116_0⟩ := Kd.at_int HR0.out 1 p116 q116
                obtain rfl : ad114 = ad116 := (by injection e116)
                (try simp only [show (1 : Int).toNat = 1 from rfl, Nat.reduceMul, Nat.reduceEqDiff, Go.Addr.add, ↓reduceIte] at hx116_0)
                have qi116 : (1 < l0.length) = True := eq_true (by omega)
                (try rw [show ((1 : Int)).toNat = 1 from rfl] at hx116_0)
                replace p116 := eq_true p116
                replace q116 := eq_true q116
                have p117 : 0 ≤ (1 : Int) := (by omega)
                have q117 : 1 < (l0.length : Int) := of_decide_eq_true (by first | (with_reducible assumption) | assumption)
                obtain ⟨ad117, e117, hx117_0⟩ := Kd.at_int HR0.out 1 p117 q117
                obtain rfl : ad114 = ad117 := (by injection e117)
                (try simp only [show (1 : Int).toNat = 1 from rfl, Nat.reduceMul, Nat.reduceEqDiff, Go.Addr.add, ↓reduceIte] at hx117_0)
                have qi117 : (1 < l0.length) = True := eq_true (by omega)
                (try rw [show ((1 : Int)).toNat = 1 from rfl] at hx117_0)
                replace p117 := eq_true p117
                replace q117 := eq_true q117
                have p118 : 0 ≤ (0 : Int) := (by omega)
                have q118 : 0 < (l0.length : Int) := of_decide_eq_true (by first | (with_reducible assumption) | assumption)
                obtain ⟨ad118, e118, hx118_0⟩ := Kd.at_int HR0.out 0 p118 q118
                obtain rfl : ad114 = ad118 := (by injection e118)
                have qi118 : (0 < l0.length) = True := eq_true (by omega)
                (try rw [show ((0 : Int)).toNat = 0 from rfl] at hx118_0)
                (try rw [Addr.add_zero'] at hx118_0)
                replace p118 := eq_true p118
                replace q118 := eq_true q118
                have p119 : 0 ≤ (1 : Int) := (by omega)
                have q119 : 1 < (l0.length : Int) := of_decide_eq_true (by first | (with_reducible assumption) | assumption)
                obtain ⟨ad119, e119, hx119_0⟩ := Kd.at_int HR0.out 1 p119 q119
                obtain rfl : ad114 = ad119 := (by injection e119)
                (try simp only [show (1 : Int).toNat = 1 from rfl, Nat.reduceMul, Nat.reduceEqDiff, Go.Addr.add, ↓reduceIte] at hx119_0)
                have qi119 : (1 < l0.length) = True := eq_true (by omega)
                (try rw [show ((1 : Int)).toNat = 1 from rfl] at hx119_0)
                replace p119 := eq_true p119
                replace q119 := eq_true q119
                go_enter Try.func47, Try.ntmps47
                go_wp2_with (first | (go_at_call 86; (with_reducible refine (dec_Norm.calls (rd l0 0) (rd l0 1) t120 t121 _ A8.out).mono ?_); rintro e w' ⟨rfl, ⟨nd, rfl⟩⟩; (try first | exact ⟨rfl, _, World.drewN_drewN _ _ _⟩ | exact ⟨rfl, _, Eq.trans (World.drewN_drewN _ _ _) (congrArg (World.drewN _) (Nat.add_assoc _ _ _))⟩); have p122 : 0 ≤ (0 : Int) := (by omega); have q122 : 0 < (l0.length : Int) := of_decide_eq_true (by first | (with_reducible assumption) | assumption); obtain ⟨ad122, e122, hx122_0⟩ := Kd.at_int HR0.out 0 p122 q122; obtain rfl : ad114 = ad122 := (by injection e122); have qi122 : (0 < l0.length) = True := eq_true (by omega); (try rw [show ((0 : Int)).toNat = 0 from rfl] at hx122_0); (try rw [Addr.add_zero'] at hx122_0); replace p122 := eq_true p122; replace q122 := eq_true q122; have p123 : 0 ≤ (1 : Int) := (by omega); have q123 : 1 < (l0.length : Int) := of_decide_eq_true (by first | (with_reducible assumption) | assumption); obtain ⟨ad123, e123, hx123_0⟩ := Kd.at_int HR0.out 1 p123 q123; obtain rfl : ad114 = ad123 := (by injection e123); (try simp only [show (1 : Int).toNat = 1 from rfl, Nat.reduceMul, Nat.reduceEqDiff, Go.Addr.add, ↓reduceIte] at hx123_0); have qi123 : (1 < l0.length) = True := eq_true (by omega); (try rw [show ((1 : Int)).toNat = 1 from rfl] at hx123_0); replace p123 := eq_true p123; replace q123 := eq_true q123))
                repeat (go_quiet (first | (go_at_call 86; (with_reducible refine (dec_Norm.calls (rd l0 0) (rd l0 1) t120 t121 _ A8.out).mono ?_); rintro e w' ⟨rfl, ⟨nd, rfl⟩⟩; (try first | exact ⟨rfl, _, World.drewN_drewN _ _ _⟩ | exact ⟨rfl, _, Eq.trans (World.drewN_drewN _ _ _) (congrArg (World.drewN _) (Nat.add_assoc _ _ _))⟩); have p122 : 0 ≤ (0 : Int) := (by omega); have q122 : 0 < (l0.length : Int) := of_decide_eq_true (by first | (with_reducible assumption) | assumption); obtain ⟨ad122, e122, hx122_0⟩ := Kd.at_int HR0.out 0 p122 q122; obtain rfl : ad114 = ad122 := (by injection e122); have qi122 : (0 < l0.length) = True := eq_true (by omega); (try rw [show ((0 : Int)).toNat = 0 from rfl] at hx122_0); (try rw [Addr.add_zero'] at hx122_0); replace p122 := eq_true p122; replace q122 := eq_true q122; have p123 : 0 ≤ (1 : Int) := (by omega); have q123 : 1 < (l0.length : Int) := of_decide_eq_true (by first | (with_reducible assumption) | assumption); obtain ⟨ad123, e123, hx123_0⟩ := Kd.at_int HR0.out 1 p123 q123; obtain rfl : ad114 = ad123 := (by injection e123); (try simp only [show (1 : Int).toNat = 1 from rfl, Nat.reduceMul, Nat.reduceEqDiff, Go.Addr.add, ↓reduceIte] at hx123_0); have qi123 : (1 < l0.length) = True := eq_true (by omega); (try rw [show ((1 : Int)).toNat = 1 from rfl] at hx123_0); replace p123 := eq_true p123; replace q123 := eq_true q123)); try go_wp2_with (first | (go_at_call 86; (with_reducible refine (dec_Norm.calls (rd l0 0) (rd l0 1) t120 t121 _ A8.out).mono ?_); rintro e w' ⟨rfl, ⟨nd, rfl⟩⟩; (try first | exact ⟨rfl, _, World.drewN_drewN _ _ _⟩ | exact ⟨rfl, _, Eq.trans (World.drewN_drewN _ _ _) (congrArg (World.drewN _) (Nat.add_assoc _ _ _))⟩); have p122 : 0 ≤ (0 : Int) := (by omega); have q122 : 0 < (l0.length : Int) := of_decide_eq_true (by first | (with_reducible assumption) | assumption); obtain ⟨ad122, e122, hx122_0⟩ := Kd.at_int HR0.out 0 p122 q122; obtain rfl : ad114 = ad122 := (by injection e122); have qi122 : (0 < l0.length) = True := eq_true (by omega); (try rw [show ((0 : Int)).toNat = 0 from rfl] at hx122_0); (try rw [Addr.add_zero'] at hx122_0); replace p122 := eq_true p122; replace q122 := eq_true q122; have p123 : 0 ≤ (1 : Int) := (by omega); have q123 : 1 < (l0.length : Int) := of_decide_eq_true (by first | (with_reducible assumption) | assumption); obtain ⟨ad123, e123, hx123_0⟩ := Kd.at_int HR0.out 1 p123 q123; obtain rfl : ad114 = ad123 := (by injection e123); (try simp only [show (1 : Int).toNat = 1 from rfl, Nat.reduceMul, Nat.reduceEqDiff, Go.Addr.add, ↓reduceIte] at hx123_0); have qi123 : (1 < l0.length) = True := eq_true (by omega); (try rw [show ((1 : Int)).toNat = 1 from rfl] at hx123_0); replace p123 := eq_true p123; replace q123 := eq_true q123)))
                go_ret
                exact ⟨by first | rfl | (simp; done) | (simp [*]; done), by repeat (first | exact Drawn0.refl _ | apply Drawn0.step)⟩
              · rw [if_neg c9] at H
                have c9b0 : (t120 == (rd l0 0)) = false := beq_eq_false_iff_ne.mpr c9
                have c9b1 : (t120 != (rd l0 0)) = true := bne_iff_ne.mpr c9
                obtain rfl := Option.some.inj H
                have p114 : 0 ≤ (0 : Int) := (by omega)
                have q114 : 0 < (l0.length : Int) := of_decide_eq_true (by first | (with_reducible assumption) | assumption)
                obtain ⟨ad114, e114, hx114_0⟩ := Kd.at_int HR0.out 0 p114 q114
                cases e114
                have qi114 : (0 < l0.length) = True := eq_true (by omega)
                (try rw [show ((0 : Int)).toNat = 0 from rfl] at hx114_0)
                (try rw [Addr.add_zero'] at hx114_0)
                replace p114 := eq_true p114
                replace q114 := eq_true q114
                have p115 : 0 ≤ (0 : Int) := (by omega)
                have q115 : 0 < (l0.length : Int) := of_decide_eq_true (by first | (with_reducible assumption) | assumption)
                obtain ⟨ad115, e115, hx115_0⟩ := Kd.at_int HR0.out 0 p115 q115
                obtain rfl : ad114 = ad115 := (by injection e115)
                have qi115 : (0 < l0.length) = True := eq_true (by omega)
                (try rw [show ((0 : Int)).toNat = 0 from rfl] at hx115_0)
                (try rw [Addr.add_zero'] at hx115_0)
                replace p115 := eq_true p115
                replace q115 := eq_true q115
                have p116 : 0 ≤ (1 : Int) := (by omega)
                have q116 : 1 < (l0.length : Int) := of_decide_eq_true (by first | (with_reducible assumption) | assumption)
                obtain ⟨ad116, e116, hx116_0⟩ := Kd.at_int HR0.out 1 p116 q116
                obtain rfl : ad114 = ad116 := (by injection e116)
                (try simp only [show (1 : Int).toNat = 1 from rfl, Nat.reduceMul, Nat.reduceEqDiff, Go.Addr.add, ↓reduceIte] at hx116_0)
                have qi116 : (1 < l0.length) = True := eq_true (by omega)
                (try rw [show ((1 : Int)).toNat = 1 from rfl] at hx116_0)
                replace p116 := eq_true p116
                replace q116 := eq_true q116
                have p117 : 0 ≤ (1 : Int) := (by omega)
                have q117 : 1 < (l0.length : Int) := of_decide_eq_true (by first | (with_reducible assumption) | assumption)
                obtain ⟨ad117, e117, hx117_0⟩ := Kd.at_int HR0.out 1 p117 q117
                obtain rfl : ad114 = ad117 := (by injection e117)
                (try simp only [show (1 : Int).toNat = 1 from rfl, Nat.reduceMul, Nat.reduceEqDiff, Go.Addr.add, ↓reduceIte] at hx117_0)
                have qi117 : (1 < l0.length) = True := eq_true (by omega)
                (try rw [show ((1 : Int)).toNat = 1 from rfl] at hx117_0)
                replace p117 := eq_true p117
                replace q117 := eq_true q117
                have p118 : 0 ≤ (0 : Int) := (by omega)
                have q118 : 0 < (l0.length : Int) := of_decide_eq_true (by first | (with_reducible assumption) | assumption)
                obtain ⟨ad118, e118, hx118_0⟩ := Kd.at_int HR0.out 0 p118 q118
                obtain rfl : ad114 = ad118 := (by injection e118)
                have qi118 : (0 < l0.length) = True := eq_true (by omega)
                (try rw [show ((0 : Int)).toNat = 0 from rfl] at hx118_0)
                (try rw [Addr.add_zero'] at hx118_0)
                replace p118 := eq_true p118
                replace q118 := eq_true q118
                have p119 : 0 ≤ (1 : Int) := (by omega)
                have q119 : 1 < (l0.length : Int) := of_decide_eq_true (by first | (with_reducible assumption) | assumption)
                obtain ⟨ad119, e119, hx119_0⟩ := Kd.at_int HR0.out 1 p119 q119
                obtain rfl : ad114 = ad119 := (by injection e119)
                (try simp only [show (1 : Int).toNat = 1 from rfl, Nat.reduceMul, Nat.reduceEqDiff, Go.Addr.add, ↓reduceIte] at hx119_0)
                have qi119 : (1 < l0.length) = True := eq_true (by omega)
                (try rw [show ((1 : Int)).toNat = 1 from rfl] at hx119_0)
                replace p119 := eq_true p119
                replace q119 := eq_true q119
                go_enter Try.func47, Try.ntmps47
                go_wp2_with (first | (go_at_call 86; (with_reducible refine (dec_Norm.calls (rd l0 0) (rd l0 1) t120 t121 _ A8.out).mono ?_); rintro e w' ⟨rfl, ⟨nd, rfl⟩⟩; (try first | exact ⟨rfl, _, World.drewN_drewN _ _ _⟩ | exact ⟨rfl, _, Eq.trans (World.drewN_drewN _ _ _) (congrArg (World.drewN _) (Nat.add_assoc _ _ _))⟩); have p122 : 0 ≤ (0 : Int) := (by omega); have q122 : 0 < (l0.length : Int) := of_decide_eq_true (by first | (with_reducible assumption) | assumption); obtain ⟨ad122, e122, hx122_0⟩ := Kd.at_int HR0.out 0 p122 q122; obtain rfl : ad114 = ad122 := (by injection e122); have qi122 : (0 < l0.length) = True := eq_true (by omega); (try rw [show ((0 : Int)).toNat = 0 from rfl] at hx122_0); (try rw [Addr.add_zero'] at hx122_0); replace p122 := eq_true p122; replace q122 := eq_true q122))
                repeat (go_quiet (first | (go_at_call 86; (with_reducible refine (dec_Norm.calls (rd l0 0) (rd l0 1) t120 t121 _ A8.out).mono ?_); rintro e w' ⟨rfl, ⟨nd, rfl⟩⟩; (try first | exact ⟨rfl, _, World.drewN_drewN _ _ _⟩ | exact ⟨rfl, _, Eq.trans (World.drewN_drewN _ _ _) (congrArg (World.drewN _) (Nat.add_assoc _ _ _))⟩); have p122 : 0 ≤ (0 : Int) := (by omega); have q122 : 0 < (l0.length : Int) := of_decide_eq_true (by first | (with_reducible assumption) | assumption); obtain ⟨ad122, e122, hx122_0⟩ := Kd.at_int HR0.out 0 p122 q122; obtain rfl : ad114 = ad122 := (by injection e122); have qi122 : (0 < l0.length) = True := eq_true (by omega); (try rw [show ((0 : Int)).toNat = 0 from rfl] at hx122_0); (try rw [Addr.add_zero'] at hx122_0); replace p122 := eq_true p122; replace q122 := eq_true q122)); try go_wp2_with (first | (go_at_call 86; (with_reducible refine (dec_Norm.calls (rd l0 0) (rd l0 1) t120 t121 _ A8.out).mono ?_); rintro e w' ⟨rfl, ⟨nd, rfl⟩⟩; (try first | exact ⟨rfl, _, World.drewN_drewN _ _ _⟩ | exact ⟨rfl, _, Eq.trans (World.drewN_drewN _ _ _) (congrArg (World.drewN _) (Nat.add_assoc _ _ _))⟩); have p122 : 0 ≤ (0 : Int) := (by omega); have q122 : 0 < (l0.length : Int) := of_decide_eq_true (by first | (with_reducible assumption) | assumption); obtain ⟨ad122, e122, hx122_0⟩ := Kd.at_int HR0.out 0 p122 q122; obtain rfl : ad114 = ad122 := (by injection e122); have qi122 : (0 < l0.length) = True := eq_true (by omega); (try rw [show ((0 : Int)).toNat = 0 from rfl] at hx122_0); (try rw [Addr.add_zero'] at hx122_0); replace p122 := eq_true p122; replace q122 := eq_true q122)))
                go_ret
                exact ⟨by first | rfl | (simp; done) | (simp [*]; done), by repeat (first | exact Drawn0.refl _ | apply Drawn0.step)⟩
        · rw [if_neg c5] at H
          exact absurd H (by simp)
  · rw [if_neg c2] at H
    exact absurd H (by simp)

/-! ### cmp_isNaN_int: function 109 -/
def cmp_isNaN_int.f (a0 : Int) : Option (Bool) := some (a0 != a0)
set_option maxHeartbeats 8000000 in
set_option maxRecDepth 100000 in
theorem cmp_isNaN_int.calls (a0 : Int) (r : Bool) (w : World) (h : cmp_isNaN_int.f a0 = some r) :
    Calls Try.prog 109 #[.int .i64 a0] w fun e w' => e = .returned (.bool r) ∧ Drawn0 w w' := by
  have H : (some (a0 != a0)) = some r := h
  clear h
  obtain rfl := Option.some.inj H
  go_enter Try.func109, Try.ntmps109
  go_wp2
  go_ret
  exact ⟨by first | rfl | (simp; done) | (simp [*]; done), by repeat (first | exact Drawn0.refl _ | apply Drawn0.step)⟩

end Go.Proofs.Ytldfljlklfhjkaa.PPt
