/- Each call of a function that is printed here answers what its plain Lean function answers; written by a program of this session (wip/myprint.py) over the kit's print. Conditions: that the plain function answers. -/
import Derived.Test.YtldfljlklfhjkaaPEx0
namespace Go.Proofs.Ytldfljlklfhjkaa.PE
open Go.RowKit Go.Proofs.YtldfljlklfhjkaaW.PrintWords Go.Proofs.YtldfljlklfhjkaaW.PrintLast Go.Proofs.YtldfljlklfhjkaaW.PrintMore
attribute [local go_sem] max2_int min2_int max_two min_two max_three min_three max_four min_four   -- for this text's walks alone
set_option linter.unusedVariables false
set_option linter.unusedSimpArgs false
/-! ### civil_leap: function 118 -/
def civil_leap.f (a0 : Int) : Option (Bool) := if (Int.tmod a0 4) = 0 then (if (Int.tmod a0 100) = 0 then (some ((Int.tmod a0 400) == 0)) else (some true)) else (some ((Int.tmod a0 400) == 0))
set_option maxHeartbeats 8000000 in
set_option maxRecDepth 100000 in
theorem civil_leap.calls (a0 : Int) (r : Bool) (w : World) (h : civil_leap.f a0 = some r) :
    Calls Try.prog 118 #[.int .i64 a0] w fun e w' => e = .returned (.bool r) ∧ Drawn0 w w' := by
  have H : (if (Int.tmod a0 4) = 0 then (if (Int.tmod a0 100) = 0 then (some ((Int.tmod a0 400) == 0)) else (some true)) else (some ((Int.tmod a0 400) == 0))) = some r := h
  clear h
  by_cases c2 : (Int.tmod a0 4) = 0
  · rw [if_pos c2] at H
    have c2b0 : ((Int.tmod a0 4) == 0) = true := beq_iff_eq.mpr c2
    have c2b1 : ((Int.tmod a0 4) != 0) = false := bne_eq_false_iff_eq.mpr c2
    clear c2
    by_cases c3 : (Int.tmod a0 100) = 0
    · rw [if_pos c3] at H
      have c3b0 : ((Int.tmod a0 100) == 0) = true := beq_iff_eq.mpr c3
      have c3b1 : ((Int.tmod a0 100) != 0) = false := bne_eq_false_iff_eq.mpr c3
      clear c3
      obtain rfl := Option.some.inj H
      go_enter Try.func118, Try.ntmps118
      go_wp2
      go_ret
      exact ⟨by first | rfl | (simp; done) | (simp [*]; done), by repeat (first | exact Drawn0.refl _ | apply Drawn0.step)⟩
    · rw [if_neg c3] at H
      have c3b0 : ((Int.tmod a0 100) == 0) = false := beq_eq_false_iff_ne.mpr c3
      have c3b1 : ((Int.tmod a0 100) != 0) = true := bne_iff_ne.mpr c3
      obtain rfl := Option.some.inj H
      go_enter Try.func118, Try.ntmps118
      go_wp2
      go_ret
      exact ⟨by first | rfl | (simp; done) | (simp [*]; done), by repeat (first | exact Drawn0.refl _ | apply Drawn0.step)⟩
  · rw [if_neg c2] at H
    have c2b0 : ((Int.tmod a0 4) == 0) = false := beq_eq_false_iff_ne.mpr c2
    have c2b1 : ((Int.tmod a0 4) != 0) = true := bne_iff_ne.mpr c2
    obtain rfl := Option.some.inj H
    go_enter Try.func118, Try.ntmps118
    go_wp2
    go_ret
    exact ⟨by first | rfl | (simp; done) | (simp [*]; done), by repeat (first | exact Drawn0.refl _ | apply Drawn0.step)⟩
/-! ### civil_Length: function 108 -/
def civil_Length.f (a0 : Int) (a1 : Int) : Option (Int) := if a1 = 2 then ((civil_leap.f a0).bind fun t105 => (if t105 = true then (some 29) else (some 28))) else (if a1 = 4 then (some 30) else (if a1 = 6 then (some 30) else (if a1 = 9 then (some 30) else (if a1 = 11 then (some 30) else (some 31)))))
set_option maxHeartbeats 8000000 in
set_option maxRecDepth 100000 in
theorem civil_Length.calls (a0 : Int) (a1 : Int) (r : Int) (w : World) (h : civil_Length.f a0 a1 = some r) :
    Calls Try.prog 108 #[.int .i64 a0, .int .i64 a1] w fun e w' => e = .returned (.int .i64 r) ∧ Drawn0 w w' := by
  have H : (if a1 = 2 then ((civil_leap.f a0).bind fun t105 => (if t105 = true then (some 29) else (some 28))) else (if a1 = 4 then (some 30) else (if a1 = 6 then (some 30) else (if a1 = 9 then (some 30) else (if a1 = 11 then (some 30) else (some 31)))))) = some r := h
  clear h
  by_cases c3 : a1 = 2
  · rw [if_pos c3] at H
    have c3b0 : (a1 == 2) = true := beq_iff_eq.mpr c3
    have c3b1 : (a1 != 2) = false := bne_eq_false_iff_eq.mpr c3
    clear c3
    replace H := Option.bind_eq_some_iff.mp H
    obtain ⟨t105, A40, H⟩ := H
    replace H : (if t105 = true then (some 29) else (some 28)) = some r := H
    have A4 := Aside0.mk A40
    clear A40
    by_cases c5 : t105 = true
    · subst c5
      have H1 : (some 29) = some r := by rw [if_pos rfl] at H; exact H
      clear H
      have H := H1
      clear H1
      obtain rfl := Option.some.inj H
      go_enter Try.func108, Try.ntmps108
      go_wp2_with (first | ((with_reducible refine gate_callee (f := 118) rfl ?_); refine goesL_ (some 9) rfl rfl Try.func118 (by kernel_rfl) rfl #[.int .i64 a0] rfl (by (try simp only [List.map_toArray, List.map_cons, List.map_nil]); first | done | rfl | (simp only [List.length_drop, List.length_take]; rfl)) ?_; (with_reducible refine (civil_leap.calls a0 true _ A4.out).mono ?_); rintro e w' ⟨rfl, ⟨nd, rfl⟩⟩; refine ⟨_, rfl, ?_⟩))
      go_ret
      exact ⟨by first | rfl | (simp; done) | (simp [*]; done), by repeat (first | exact Drawn0.refl _ | apply Drawn0.step)⟩
    · replace c5 := Bool.eq_false_iff.mpr c5
      subst c5
      have H1 : (some 28) = some r := by rw [if_neg (show ¬ (false = true) by decide)] at H; exact H
      clear H
      have H := H1
      clear H1
      obtain rfl := Option.some.inj H
      go_enter Try.func108, Try.ntmps108
      go_wp2_with (first | ((with_reducible refine gate_callee (f := 118) rfl ?_); refine goesL_ (some 9) rfl rfl Try.func118 (by kernel_rfl) rfl #[.int .i64 a0] rfl (by (try simp only [List.map_toArray, List.map_cons, List.map_nil]); first | done | rfl | (simp only [List.length_drop, List.length_take]; rfl)) ?_; (with_reducible refine (civil_leap.calls a0 false _ A4.out).mono ?_); rintro e w' ⟨rfl, ⟨nd, rfl⟩⟩; refine ⟨_, rfl, ?_⟩))
      go_ret
      exact ⟨by first | rfl | (simp; done) | (simp [*]; done), by repeat (first | exact Drawn0.refl _ | apply Drawn0.step)⟩
  · rw [if_neg c3] at H
    have c3b0 : (a1 == 2) = false := beq_eq_false_iff_ne.mpr c3
    have c3b1 : (a1 != 2) = true := bne_iff_ne.mpr c3
    by_cases c6 : a1 = 4
    · rw [if_pos c6] at H
      have c6b0 : (a1 == 4) = true := beq_iff_eq.mpr c6
      have c6b1 : (a1 != 4) = false := bne_eq_false_iff_eq.mpr c6
      clear c6
      obtain rfl := Option.some.inj H
      go_enter Try.func108, Try.ntmps108
      go_wp2
      go_ret
      exact ⟨by first | rfl | (simp; done) | (simp [*]; done), by repeat (first | exact Drawn0.refl _ | apply Drawn0.step)⟩
    · rw [if_neg c6] at H
      have c6b0 : (a1 == 4) = false := beq_eq_false_iff_ne.mpr c6
      have c6b1 : (a1 != 4) = true := bne_iff_ne.mpr c6
      by_cases c7 : a1 = 6
      · rw [if_pos c7] at H
        have c7b0 : (a1 == 6) = true := beq_iff_eq.mpr c7
        have c7b1 : (a1 != 6) = false := bne_eq_false_iff_eq.mpr c7
        clear c7
        obtain rfl := Option.some.inj H
        go_enter Try.func108, Try.ntmps108
        go_wp2
        go_ret
        exact ⟨by first | rfl | (simp; done) | (simp [*]; done), by repeat (first | exact Drawn0.refl _ | apply Drawn0.step)⟩
      · rw [if_neg c7] at H
        have c7b0 : (a1 == 6) = false := beq_eq_false_iff_ne.mpr c7
        have c7b1 : (a1 != 6) = true := bne_iff_ne.mpr c7
        by_cases c8 : a1 = 9
        · rw [if_pos c8] at H
          have c8b0 : (a1 == 9) = true := beq_iff_eq.mpr c8
          have c8b1 : (a1 != 9) = false := bne_eq_false_iff_eq.mpr c8
          clear c8
          obtain rfl := Option.some.inj H
          go_enter Try.func108, Try.ntmps108
          go_wp2
          go_ret
          exact ⟨by first | rfl | (simp; done) | (simp [*]; done), by repeat (first | exact Drawn0.refl _ | apply Drawn0.step)⟩
        · rw [if_neg c8] at H
          have c8b0 : (a1 == 9) = false := beq_eq_false_iff_ne.mpr c8
          have c8b1 : (a1 != 9) = true := bne_iff_ne.mpr c8
          by_cases c9 : a1 = 11
          · rw [if_pos c9] at H
            have c9b0 : (a1 == 11) = true := beq_iff_eq.mpr c9
            have c9b1 : (a1 != 11) = false := bne_eq_false_iff_eq.mpr c9
            clear c9
            obtain rfl := Option.some.inj H
            go_enter Try.func108, Try.ntmps108
            go_wp2
            go_ret
            exact ⟨by first | rfl | (simp; done) | (simp [*]; done), by repeat (first | exact Drawn0.refl _ | apply Drawn0.step)⟩
          · rw [if_neg c9] at H
            have c9b0 : (a1 == 11) = false := beq_eq_false_iff_ne.mpr c9
            have c9b1 : (a1 != 11) = true := bne_iff_ne.mpr c9
            obtain rfl := Option.some.inj H
            go_enter Try.func108, Try.ntmps108
            go_wp2
            go_ret
            exact ⟨by first | rfl | (simp; done) | (simp [*]; done), by repeat (first | exact Drawn0.refl _ | apply Drawn0.step)⟩
def leapB (y : Int) : Bool := y % 4 == 0 && (y % 100 != 0 || y % 400 == 0)
def lenOf (y m : Int) : Int := if m = 2 then (if leapB y = true then 29 else 28) else if m = 4 ∨ m = 6 ∨ m = 9 ∨ m = 11 then 30 else 31
theorem tmod_zero (a b : Int) : Int.tmod a b = 0 ↔ a % b = 0 := by
  rw [← Int.dvd_iff_tmod_eq_zero, Int.dvd_iff_emod_eq_zero]
theorem leap_of (y : Int) : civil_leap.f y = some (leapB y) := by
  unfold civil_leap.f leapB
  simp only [tmod_zero]
  have e : ∀ b : Int, ((Int.tmod y b) == 0) = (y % b == 0) := fun b => by rw [Bool.eq_iff_iff, beq_iff_eq, beq_iff_eq, tmod_zero]
  simp only [e]
  by_cases h4 : y % 4 = 0
  · by_cases h1 : y % 100 = 0
    · simp [h4, h1]
    · simp [h4, h1]
  · have h5 : (y % 400 == 0) = false := beq_eq_false_iff_ne.mpr (by omega)
    have h6 : (y % 4 == 0) = false := beq_eq_false_iff_ne.mpr h4
    rw [if_neg h4, h5, h6]; rfl
theorem length_of (y m : Int) : civil_Length.f y m = some (lenOf y m) := by
  unfold civil_Length.f lenOf
  rw [leap_of]
  simp only [Option.bind_some]
  by_cases h2 : m = 2
  · rw [if_pos h2, if_pos h2]; split <;> rfl
  · rw [if_neg h2, if_neg h2]
    by_cases h4 : m = 4
    · rw [if_pos h4, if_pos (by omega)]
    · by_cases h6 : m = 6
      · rw [if_neg h4, if_pos h6, if_pos (by omega)]
      · by_cases h9 : m = 9
        · rw [if_neg h4, if_neg h6, if_pos h9, if_pos (by omega)]
        · by_cases h11 : m = 11
          · rw [if_neg h4, if_neg h6, if_neg h9, if_pos h11, if_pos (by omega)]
          · rw [if_neg h4, if_neg h6, if_neg h9, if_neg h11, if_neg (by omega)]
theorem len_bd (y m : Int) : 28 ≤ lenOf y m ∧ lenOf y m ≤ 31 := by
  unfold lenOf; split
  · split <;> omega
  · split <;> omega
/-! ### civil_Right: function 85 -/
theorem eq_arr3 (w : World) (x y z a b c : Int) : (Op.equalIn 10000 91 (.agg #[.int .i64 x, .int .i64 y, .int .i64 z]) (.agg #[.int .i64 a, .int .i64 b, .int .i64 c])).run Try.prog w = .ok (decide (x = a ∧ y = b ∧ z = c)) w := by
  have hh : (Try.prog.info? 3).isSome = true := by kernel_rfl
  obtain ⟨i, hi⟩ := Option.isSome_iff_exists.mp hh
  rw [run_equalIn_array (P := Try.prog) (w := w) 9999 (t := 91) (e := 3) (n := 3) (i := i) _ _ Try.underlying91 hi]
  have hc : Try.prog.cellsOf 3 = 1 := by kernel_rfl
  rw [hc]
  simp only [List.range, List.range.loop, Op.eqItems]
  go_simp
  by_cases h1 : x = a <;> by_cases h2 : y = b <;> by_cases h3 : z = c <;> simp [h1, h2, h3]
/-- Right, of a moment's numbers. -/
def rightB (Y M D H I S : Int) : Bool := decide (1 ≤ Y ∧ Y ≤ 9999 ∧ 1 ≤ M ∧ M ≤ 12 ∧ 1 ≤ D ∧ D ≤ lenOf Y M ∧ 0 ≤ H ∧ H ≤ 23 ∧ 0 ≤ I ∧ I ≤ 59 ∧ 0 ≤ S ∧ S ≤ 59)
theorem length_quiet (y m L : Int) (w : World) (n : Nat) (hL : civil_Length.f y m = some L) :
    Calls Try.prog 108 #[.int .i64 y, .int .i64 m] (w.drewN n) fun e w' => e = .returned (.int .i64 L) ∧ ∃ m, w' = w.drewN m :=
  (civil_Length.calls _ _ _ _ hL).mono fun e w' ⟨he, ⟨k, hk⟩⟩ => ⟨he, n + k, by rw [hk, World.drewN_drewN]⟩
set_option maxHeartbeats 8000000 in
set_option maxRecDepth 100000 in
theorem right_calls (Y M D H I S : Int) (w : World) :
    Calls Try.prog 85 #[.agg #[.int .i64 Y, .int .i64 M, .int .i64 D, .int .i64 H, .int .i64 I, .int .i64 S]] w fun e w' => e = .returned (.bool (rightB Y M D H I S)) ∧ Below w.heap.size w w' := by
  have hL := Lib.hid (length_of Y M)
  have hR := Lib.hid (show rightB Y M D H I S = decide (1 ≤ Y ∧ Y ≤ 9999 ∧ 1 ≤ M ∧ M ≤ 12 ∧ 1 ≤ D ∧ D ≤ lenOf Y M ∧ 0 ≤ H ∧ H ≤ 23 ∧ 0 ≤ I ∧ I ≤ 59 ∧ 0 ≤ S ∧ S ≤ 59) from rfl)
  generalize lenOf Y M = L at *
  generalize rightB Y M D H I S = R at *
  by_cases c1 : Y < 1
  · obtain rfl : R = false := by rw [hR.out]; exact decide_eq_false (by omega)
    clear hR
    have d1 : decide (Y < 1) = true := decide_eq_true c1
    go_enter Try.func85, Try.ntmps85
    go_wp2_with fail
    go_quiet (fail)
    go_wp2_with fail
    go_ret
    exact ⟨rfl, by repeat (first | exact Below.refl _ _ | apply below_alloc | apply pw_below_drewN | apply below_drew1)⟩
  · have d1 : decide (Y < 1) = false := decide_eq_false c1
    by_cases c2 : 9999 < Y
    · obtain rfl : R = false := by rw [hR.out]; exact decide_eq_false (by omega)
      clear hR
      have d2 : decide (9999 < Y) = true := decide_eq_true c2
      go_enter Try.func85, Try.ntmps85
      go_wp2_with fail
      go_quiet (fail)
      go_wp2_with fail
      go_ret
      exact ⟨rfl, by repeat (first | exact Below.refl _ _ | apply below_alloc | apply pw_below_drewN | apply below_drew1)⟩
    · have d2 : decide (9999 < Y) = false := decide_eq_false c2
      by_cases c3 : M < 1
      · obtain rfl : R = false := by rw [hR.out]; exact decide_eq_false (by omega)
        clear hR
        have d3 : decide (M < 1) = true := decide_eq_true c3
        go_enter Try.func85, Try.ntmps85
        go_wp2_with fail
        go_quiet (fail)
        go_wp2_with fail
        go_ret
        exact ⟨rfl, by repeat (first | exact Below.refl _ _ | apply below_alloc | apply pw_below_drewN | apply below_drew1)⟩
      · have d3 : decide (M < 1) = false := decide_eq_false c3
        by_cases c4 : 12 < M
        · obtain rfl : R = false := by rw [hR.out]; exact decide_eq_false (by omega)
          clear hR
          have d4 : decide (12 < M) = true := decide_eq_true c4
          go_enter Try.func85, Try.ntmps85
          go_wp2_with fail
          go_quiet (fail)
          go_wp2_with fail
          go_ret
          exact ⟨rfl, by repeat (first | exact Below.refl _ _ | apply below_alloc | apply pw_below_drewN | apply below_drew1)⟩
        · have d4 : decide (12 < M) = false := decide_eq_false c4
          by_cases c5 : D < 1
          · obtain rfl : R = false := by rw [hR.out]; exact decide_eq_false (by omega)
            clear hR
            have d5 : decide (D < 1) = true := decide_eq_true c5
            go_enter Try.func85, Try.ntmps85
            go_wp2_with fail
            go_quiet (fail)
            go_wp2_with fail
            go_ret
            exact ⟨rfl, by repeat (first | exact Below.refl _ _ | apply below_alloc | apply pw_below_drewN | apply below_drew1)⟩
          · have d5 : decide (D < 1) = false := decide_eq_false c5
            by_cases c6 : L < D
            · obtain rfl : R = false := by rw [hR.out]; exact decide_eq_false (by omega)
              clear hR
              have d6 : decide (L < D) = true := decide_eq_true c6
              go_enter Try.func85, Try.ntmps85
              go_wp2_with fail
              go_quiet ((go_at_call 108; exact length_quiet _ _ _ _ _ hL.out))
              go_wp2_with fail
              go_ret
              exact ⟨rfl, by repeat (first | exact Below.refl _ _ | apply below_alloc | apply pw_below_drewN | apply below_drew1)⟩
            · have d6 : decide (L < D) = false := decide_eq_false c6
              have hb : 1 ≤ Y ∧ Y ≤ 9999 ∧ 1 ≤ M ∧ M ≤ 12 ∧ 1 ≤ D ∧ D ≤ L := ⟨by omega, by omega, by omega, by omega, by omega, by omega⟩
              have hR2 := Lib.hid (show R = decide (0 ≤ H ∧ H ≤ 23 ∧ 0 ≤ I ∧ I ≤ 59 ∧ 0 ≤ S ∧ S ≤ 59) by rw [hR.out]; simp only [hb, true_and])
              clear hR hb
              have hE := fun w x y z a b c => eq_arr3 w x y z a b c
              go_enter Try.func85, Try.ntmps85
              go_wp2_with fail
              go_quiet ((go_at_call 108; exact length_quiet _ _ _ _ _ hL.out))
              go_wp2_with fail
              all_goals
                go_ret
                refine ⟨congrArg (fun b => Ending.returned (.bool b)) ?_, by repeat (first | exact Below.refl _ _ | apply below_alloc | apply pw_below_drewN | apply below_drew1)⟩
                rw [hR2.out, Bool.eq_iff_iff]
                simp
                omega
def civil_Right.f (a0_0 : Int) (a0_1 : Int) (a0_2 : Int) (a0_3 : Int) (a0_4 : Int) (a0_5 : Int) : Option (Bool) := some (rightB a0_0 a0_1 a0_2 a0_3 a0_4 a0_5)
theorem civil_Right.calls (a0_0 : Int) (a0_1 : Int) (a0_2 : Int) (a0_3 : Int) (a0_4 : Int) (a0_5 : Int) (r : Bool) (w : World) (h : civil_Right.f a0_0 a0_1 a0_2 a0_3 a0_4 a0_5 = some r) :
    Calls Try.prog 85 #[.agg #[.int .i64 a0_0, .int .i64 a0_1, .int .i64 a0_2, .int .i64 a0_3, .int .i64 a0_4, .int .i64 a0_5]] w fun e w' => e = .returned (.bool r) ∧ Below w.heap.size w w' := by
  obtain rfl := Option.some.inj h
  exact right_calls a0_0 a0_1 a0_2 a0_3 a0_4 a0_5 w
/-! ### dec_Norm: function 86 -/
/-- A decimal's noughts, struck. -/
def normN : Nat → Int → Int × Int
  | 0, m => (m, 0)
  | s + 1, m => if m % 10 = 0 then normN s (m / 10) else (m, ((s + 1 : Nat) : Int))
def dec_Norm.f (a0 : Int) (a1 : Int) : Option (Int × Int) := if -9223372036854775808 ≤ a0 ∧ a0 ≤ 9223372036854775807 ∧ a1 ≤ 9223372036854775807 then some (normN a1.toNat a0) else none
theorem tmod10 (m : Int) : (Int.tmod m 10 == 0) = (m % 10 == 0) := by
  rw [Bool.eq_iff_iff, beq_iff_eq, beq_iff_eq, ← Int.dvd_iff_tmod_eq_zero, Int.dvd_iff_emod_eq_zero]
theorem tdiv10 (m : Int) (h : m % 10 = 0) : Int.tdiv m 10 = m / 10 := Int.tdiv_eq_ediv_of_dvd (Int.dvd_of_emod_eq_zero h)
theorem norm_zero (a0 a1 : Int) (w : World) (h : a1 ≤ 0) : Calls Try.prog 86 #[.int .i64 a0, .int .i64 a1] w fun e w' => e = .returned (.tuple #[.int .i64 a0, .int .i64 0]) ∧ w = w' := by
  go_enter Try.func86, Try.ntmps86
  go_wp2
  refine wp_scope_jumps 0 (fun _ _ => False) (fun _ _ => 0) rfl ?_ (fun _ _ h => h.elim)
  go_wp2
  go_step3
  go_wp2
  all_goals
    simp only [Exit.jump]
    go_ret2
  · exact ⟨rfl, rfl⟩
  · rename_i h1 _ h2
    obtain rfl : a1 = 0 := by omega
    exact ⟨rfl, rfl⟩
theorem normN_hit (s : Nat) (m : Int) (h : m % 10 = 0) : normN (s + 1) m = normN s (m / 10) := by rw [normN, if_pos h]
theorem normN_miss (s : Nat) (m : Int) (h : ¬ m % 10 = 0) : normN (s + 1) m = (m, ((s + 1 : Nat) : Int)) := by rw [normN, if_neg h]
set_option maxHeartbeats 800000 in
set_option maxRecDepth 100000 in
theorem norm_some (s0 : Nat) (m0 : Int) (w : World) (hs : (s0 : Int) ≤ 9223372036854775807) (b1 : -9223372036854775808 ≤ m0) (b2 : m0 ≤ 9223372036854775807) :
    Calls Try.prog 86 #[.int .i64 m0, .int .i64 s0] w fun e w' => e = .returned (.tuple #[.int .i64 (normN s0 m0).1, .int .i64 (normN s0 m0).2]) ∧ w = w' := by
  go_enter Try.func86, Try.ntmps86
  go_wp2
  refine wp_scope_jumps 0 (fun a' w' => w = w' ∧ ∃ (s : Nat) (m : Int) (u6 u7 u8 u9 u10 u11 u12 u13 u14 u15 u16 : Value), a' = { tmps := #[.int .i64 m, .int .i64 s, undef, undef, .int .i64 0, .int .i64 0, u6, u7, u8, u9, u10, u11, u12, u13, u14, u15, u16, undef, undef, undef], defers := [] } ∧ Hid (normN s m = normN s0 m0) ∧ (s : Int) ≤ 9223372036854775807 ∧ -9223372036854775808 ≤ m ∧ m ≤ 9223372036854775807) (fun a' _ => (intOf (a'.tmps.getD 1 undef)).toNat) rfl ?_ ?_
  · go_wp2
    go_step3
    cases s0 with
    | zero =>
      go_wp2
      simp only [Exit.jump]
      go_ret2
      exact ⟨rfl, rfl⟩
    | succ s =>
      by_cases hz : m0 % 10 = 0
      · have h1 := Lib.hid (normN_hit s m0 hz)
        have e0 : (Int.tmod m0 10 == 0) = true := by rw [tmod10, hz]; rfl
        have e1 := tdiv10 m0 hz
        go_wp2
        go_step3
        exact ⟨rfl, rfl, s, m0 / 10, _, _, _, _, _, _, _, _, _, _, _, rfl, h1.out.symm, by omega, by omega, by omega⟩
      · have h1 := Lib.hid (normN_miss s m0 hz)
        have e0 : (Int.tmod m0 10 == 0) = false := by rw [tmod10]; exact beq_eq_false_iff_ne.mpr hz
        go_wp2
        simp only [Exit.jump]
        go_ret2
        exact ⟨by rw [h1.out]; rfl, rfl⟩
  · rintro a' w' ⟨rfl, s, m, u6, u7, u8, u9, u10, u11, u12, u13, u14, u15, u16, rfl, hn, hs', c1, c2⟩
    cases s with
    | zero =>
      go_wp2
      simp only [Exit.jump]
      go_ret2
      exact ⟨by rw [← hn.out]; rfl, rfl⟩
    | succ s =>
      by_cases hz : m % 10 = 0
      · have h1 := Lib.hid (normN_hit s m hz)
        have e0 : (Int.tmod m 10 == 0) = true := by rw [tmod10, hz]; rfl
        have e1 := tdiv10 m hz
        go_wp2
        go_step3
        refine ⟨rfl, ⟨rfl, s, m / 10, _, _, _, _, _, _, _, _, _, _, _, rfl, h1.out.symm.trans hn.out, by omega, by omega, by omega⟩, ?_⟩
        simp [intOf]
      · have h1 := Lib.hid (normN_miss s m hz)
        have e0 : (Int.tmod m 10 == 0) = false := by rw [tmod10]; exact beq_eq_false_iff_ne.mpr hz
        go_wp2
        simp only [Exit.jump]
        go_ret2
        exact ⟨by rw [← hn.out, h1.out]; rfl, rfl⟩
theorem dec_Norm.calls (a0 : Int) (a1 : Int) (r1 : Int) (r2 : Int) (w : World) (h : dec_Norm.f a0 a1 = some (r1, r2)) :
    Calls Try.prog 86 #[.int .i64 a0, .int .i64 a1] w fun e w' => e = .returned (.tuple #[.int .i64 r1, .int .i64 r2]) ∧ Drawn0 w w' := by
  unfold dec_Norm.f at h
  split at h
  · rename_i hb
    have h := Option.some.inj h
    by_cases hz : a1 ≤ 0
    · rw [show a1.toNat = 0 by omega, normN] at h
      injection h with h1 h2
      subst h1; subst h2
      exact (norm_zero a0 a1 w hz).mono fun e w' ⟨he, hw⟩ => ⟨he, hw ▸ Drawn0.refl _⟩
    · obtain ⟨s, rfl⟩ := Int.eq_ofNat_of_zero_le (show 0 ≤ a1 by omega)
      rw [Int.toNat_natCast] at h
      have := norm_some s a0 w (by omega) hb.1 hb.2.1
      rw [h] at this
      exact this.mono fun e w' ⟨he, hw⟩ => ⟨he, hw ▸ Drawn0.refl _⟩
  · cases h
/-! ### civil_floor: function 111 -/
def civil_floor.f (a0 : Int) (a1 : Int) : Option (Int × Int) := if a1 = 0 then (none) else (if (Int.tmod a0 a1) < 0 then (some (wrap64 ((wrap64 (Int.tdiv a0 a1)) - 1), wrap64 ((Int.tmod a0 a1) + a1))) else (some (wrap64 (Int.tdiv a0 a1), Int.tmod a0 a1)))
set_option maxHeartbeats 8000000 in
set_option maxRecDepth 100000 in
theorem civil_floor.calls (a0 : Int) (a1 : Int) (r1 : Int) (r2 : Int) (w : World) (h : civil_floor.f a0 a1 = some (r1, r2)) :
    Calls Try.prog 111 #[.int .i64 a0, .int .i64 a1] w fun e w' => e = .returned (.tuple #[.int .i64 r1, .int .i64 r2]) ∧ Drawn0 w w' := by
  have H : (if a1 = 0 then (none) else (if (Int.tmod a0 a1) < 0 then (some (wrap64 ((wrap64 (Int.tdiv a0 a1)) - 1), wrap64 ((Int.tmod a0 a1) + a1))) else (some (wrap64 (Int.tdiv a0 a1), Int.tmod a0 a1)))) = some (r1, r2) := h
  clear h
  by_cases c3 : a1 = 0
  · rw [if_pos c3] at H
    exact absurd H (by simp)
  · rw [if_neg c3] at H
    have c3b0 : (a1 == 0) = false := beq_eq_false_iff_ne.mpr c3
    have c3b1 : (a1 != 0) = true := bne_iff_ne.mpr c3
    by_cases c4 : (Int.tmod a0 a1) < 0
    · rw [if_pos c4] at H
      have c4b0 : decide ((Int.tmod a0 a1) < 0) = true := decide_eq_true c4
      clear c4
      simp only [Option.some.injEq, Prod.mk.injEq] at H
      obtain ⟨rfl, rfl⟩ := H
      go_enter Try.func111, Try.ntmps111
      go_wp2
      repeat (go_quiet (fail); try go_wp2)
      go_ret2
      exact ⟨by first | rfl | (simp; done) | (simp [*]; done), by repeat (first | exact Drawn0.refl _ | apply Drawn0.step)⟩
    · rw [if_neg c4] at H
      have c4b0 : decide ((Int.tmod a0 a1) < 0) = false := decide_eq_false c4
      clear c4
      simp only [Option.some.injEq, Prod.mk.injEq] at H
      obtain ⟨rfl, rfl⟩ := H
      go_enter Try.func111, Try.ntmps111
      go_wp2
      repeat (go_quiet (fail); try go_wp2)
      go_ret2
      exact ⟨by first | rfl | (simp; done) | (simp [*]; done), by repeat (first | exact Drawn0.refl _ | apply Drawn0.step)⟩
theorem civil_floor_of (a b : Int) (ha : -4611686018427387904 ≤ a) (ha2 : a ≤ 4611686018427387904) (hb : 2 ≤ b) (hb2 : b ≤ 1000000) : civil_floor.f a b = some (a / b, a % b) := by
  have hq := Int.mul_ediv_add_emod a b
  have hr0 := Int.emod_nonneg a (show b ≠ 0 by omega)
  have hr1 := Int.emod_lt_of_pos a (show 0 < b by omega)
  have tq := Int.mul_tdiv_add_tmod a b
  have e1 : Int.tdiv a b = if a < 0 ∧ a % b ≠ 0 then a / b + 1 else a / b := by
    by_cases h0 : 0 ≤ a
    · rw [Int.tdiv_eq_ediv_of_nonneg h0, if_neg (by omega)]
    · rw [Int.tdiv_eq_ediv]
      by_cases hd : b ∣ a
      · rw [if_pos (Or.inr hd), if_neg (by have := Int.emod_eq_zero_of_dvd hd; omega)]; omega
      · rw [if_neg (by rintro (h | h); exact h0 h; exact hd h), if_pos ⟨by omega, fun h => hd (Int.dvd_of_emod_eq_zero h)⟩, Int.sign_eq_one_of_pos (by omega)]
  have bq : -4611686018427387904 ≤ a / b ∧ a / b ≤ 4611686018427387904 := by
    constructor
    · exact Int.le_ediv_of_mul_le (by omega) (by have := Int.mul_le_mul_of_nonneg_left (show (1:Int) ≤ b by omega) (show (0:Int) ≤ 4611686018427387904 by omega); omega)
    · exact Int.ediv_le_of_le_mul (by omega) (by have := Int.mul_le_mul_of_nonneg_left (show (1:Int) ≤ b by omega) (show (0:Int) ≤ 4611686018427387904 by omega); omega)
  unfold civil_floor.f
  rw [if_neg (by omega)]
  by_cases hc : a < 0 ∧ a % b ≠ 0
  · rw [if_pos hc] at e1
    have em : Int.tmod a b = a % b - b := by
      rw [e1, Int.mul_add] at tq
      omega
    rw [if_pos (by omega), em, e1]
    have w1 : wrap64 (a / b + 1) = a / b + 1 := by unfold wrap64; omega
    have w2 : wrap64 (a / b + 1 - 1) = a / b := by unfold wrap64; omega
    have w3 : wrap64 (a % b - b + b) = a % b := by unfold wrap64; omega
    rw [w1, w2, w3]
  · rw [if_neg hc] at e1
    have em : Int.tmod a b = a % b := by
      rw [e1] at tq
      omega
    rw [if_neg (by omega), em, e1]
    have w1 : wrap64 (a / b) = a / b := by unfold wrap64; omega
    rw [w1]
/-! ### civil_day_number: function 119 -/
theorem ret_int {k : IntKind} {a b : Int} (h : a = b) : Ending.returned (.int k a) = .returned (.int k b) := by rw [h]
/-- Days, of numbers in bounds. -/
def daysOf (y m d : Int) : Int :=
  if m ≤ 2 then (y - 1) / 400 * 146097 + (y - 1) % 400 * 365 + (y - 1) % 400 / 4 - (y - 1) % 400 / 100 + (153 * (m + 9) + 2) / 5 + d - 719469
  else y / 400 * 146097 + y % 400 * 365 + y % 400 / 4 - y % 400 / 100 + (153 * (m - 3) + 2) / 5 + d - 719469
set_option maxHeartbeats 8000000 in
set_option maxRecDepth 100000 in
theorem number_calls (a0 a1 a2 : Int) (w : World) (b1 : -1000000 ≤ a0) (b2 : a0 ≤ 1000000) (b3 : 1 ≤ a1) (b4 : a1 ≤ 12) (b5 : -1000000 ≤ a2) (b6 : a2 ≤ 1000000) :
    Calls Try.prog 119 #[.agg #[.int .i64 a0, .int .i64 a1, .int .i64 a2]] w fun e w' => e = .returned (.int .i64 (daysOf a0 a1 a2)) ∧ Below w.heap.size w w' := by
  by_cases c : a1 ≤ 2
  · have hF := Lib.hid (civil_floor_of (a0 - 1) 400 (by omega) (by omega) (by omega) (by omega))
    have hD := Lib.hid (show daysOf a0 a1 a2 = (a0 - 1) / 400 * 146097 + (a0 - 1) % 400 * 365 + (a0 - 1) % 400 / 4 - (a0 - 1) % 400 / 100 + (153 * (a1 + 9) + 2) / 5 + a2 - 719469 by unfold daysOf; rw [if_pos c])
    have hq0 : -5000 ≤ (a0 - 1) / 400 := by omega
    have hq1 : (a0 - 1) / 400 ≤ 5000 := by omega
    have hr0 : 0 ≤ (a0 - 1) % 400 := by omega
    have hr1 : (a0 - 1) % 400 < 400 := by omega
    generalize (a0 - 1) / 400 = q at *
    generalize (a0 - 1) % 400 = r at *
    go_enter Try.func119, Try.ntmps119
    go_wp2_with fail
    go_quiet (fail)
    go_wp2_with (go_at_call 111; refine (civil_floor.calls _ _ _ _ _ hF.out).mono ?_; rintro e w' ⟨rfl, ⟨nd, rfl⟩⟩)
    go_ret
    exact ⟨ret_int (by rw [hD.out]; omega), by repeat (first | exact Below.refl _ _ | apply below_alloc | apply pw_below_drewN | apply below_drew1)⟩
  · have hF := Lib.hid (civil_floor_of a0 400 (by omega) (by omega) (by omega) (by omega))
    have hD := Lib.hid (show daysOf a0 a1 a2 = a0 / 400 * 146097 + a0 % 400 * 365 + a0 % 400 / 4 - a0 % 400 / 100 + (153 * (a1 - 3) + 2) / 5 + a2 - 719469 by unfold daysOf; rw [if_neg c])
    have hq0 : -5000 ≤ a0 / 400 := by omega
    have hq1 : a0 / 400 ≤ 5000 := by omega
    have hr0 : 0 ≤ a0 % 400 := by omega
    have hr1 : a0 % 400 < 400 := by omega
    generalize a0 / 400 = q at *
    generalize a0 % 400 = r at *
    go_enter Try.func119, Try.ntmps119
    go_wp2_with fail
    go_quiet (fail)
    go_wp2_with (go_at_call 111; refine (civil_floor.calls _ _ _ _ _ hF.out).mono ?_; rintro e w' ⟨rfl, ⟨nd, rfl⟩⟩)
    go_ret
    exact ⟨ret_int (by rw [hD.out]; omega), by repeat (first | exact Below.refl _ _ | apply below_alloc | apply pw_below_drewN | apply below_drew1)⟩
/-! ### civil_on: function 112 -/
theorem ret_day {a b c a' b' c' : Int} (h : a = a' ∧ b = b' ∧ c = c') : Ending.returned (.agg #[.int .i64 a, .int .i64 b, .int .i64 c]) = .returned (.agg #[.int .i64 a', .int .i64 b', .int .i64 c']) := by
  obtain ⟨rfl, rfl, rfl⟩ := h; rfl
/-- Civil's parts, of a day's number: the year of the era, the day of the year, the month (0: March). -/
def yoeOf (r : Int) : Int := (r - r / 1460 + r / 36524 - r / 146096) / 365
def doyOf (r : Int) : Int := r - (365 * yoeOf r + yoeOf r / 4 - yoeOf r / 100)
def mpOf (r : Int) : Int := (5 * doyOf r + 2) / 153
def onM (r : Int) : Int := if mpOf r + 3 > 12 then mpOf r + 3 - 12 else mpOf r + 3
def onD (r : Int) : Int := doyOf r - (153 * mpOf r + 2) / 5 + 1
def onY (q r : Int) : Int := if mpOf r + 3 > 12 then yoeOf r + q * 400 + 1 else yoeOf r + q * 400
def civY (n : Int) : Int := onY ((n + 719468) / 146097) ((n + 719468) % 146097)
def civM (n : Int) : Int := onM ((n + 719468) % 146097)
def civD (n : Int) : Int := onD ((n + 719468) % 146097)
theorem doy_bd0 (r : Int) (h0 : 0 ≤ r) (h1 : r < 146097) : 0 ≤ r - (365 * yoeOf r + yoeOf r / 4 - yoeOf r / 100) ∧ r - (365 * yoeOf r + yoeOf r / 4 - yoeOf r / 100) ≤ 365 ∧ 0 ≤ yoeOf r ∧ yoeOf r ≤ 399 := by
  unfold yoeOf
  generalize hf : r / 36524 = f
  generalize hg : r / 146096 = g
  generalize he : r / 1460 = e
  generalize hb : (r - e + f - g) / 365 = b
  generalize hc : b / 4 = c
  generalize hd : b / 100 = d
  have : f = 0 ∨ f = 1 ∨ f = 2 ∨ f = 3 ∨ f = 4 := by omega
  rcases this with rfl | rfl | rfl | rfl | rfl
  · obtain rfl : g = 0 := by omega
    obtain rfl : d = 0 := by omega
    omega
  · obtain rfl : g = 0 := by omega
    obtain rfl : d = 1 := by omega
    omega
  · obtain rfl : g = 0 := by omega
    obtain rfl : d = 2 := by omega
    omega
  · obtain rfl : g = 0 := by omega
    obtain rfl : d = 3 := by omega
    omega
  · obtain rfl : g = 1 := by omega
    obtain rfl : d = 3 := by omega
    omega
theorem doy_bd (r : Int) (h0 : 0 ≤ r) (h1 : r < 146097) : 0 ≤ doyOf r ∧ doyOf r ≤ 365 ∧ 0 ≤ yoeOf r ∧ yoeOf r ≤ 399 := doy_bd0 r h0 h1
set_option maxHeartbeats 8000000 in
set_option maxRecDepth 100000 in
theorem on_calls (a0 : Int) (w : World) (b1 : -1000000000000 ≤ a0) (b2 : a0 ≤ 1000000000000) :
    Calls Try.prog 112 #[.int .i64 a0] w fun e w' => e = .returned (.agg #[.int .i64 (civY a0), .int .i64 (civM a0), .int .i64 (civD a0)]) ∧ Below w.heap.size w w' := by
  have hF := Lib.hid (civil_floor_of (a0 + 719468) 146097 (by omega) (by omega) (by omega) (by omega))
  have hq0 : -10000000 ≤ (a0 + 719468) / 146097 := by omega
  have hq1 : (a0 + 719468) / 146097 ≤ 10000000 := by omega
  have hr0 : 0 ≤ (a0 + 719468) % 146097 := by omega
  have hr1 : (a0 + 719468) % 146097 < 146097 := by omega
  have hY := Lib.hid (show civY a0 = onY ((a0 + 719468) / 146097) ((a0 + 719468) % 146097) from rfl)
  have hM := Lib.hid (show civM a0 = onM ((a0 + 719468) % 146097) from rfl)
  have hD := Lib.hid (show civD a0 = onD ((a0 + 719468) % 146097) from rfl)
  generalize (a0 + 719468) / 146097 = q at *
  generalize (a0 + 719468) % 146097 = r at *
  obtain ⟨hd0, hd1, hy0, hy1⟩ := doy_bd r hr0 hr1
  have hm0 : 0 ≤ mpOf r := by unfold mpOf; omega
  have hm1 : mpOf r ≤ 11 := by unfold mpOf; omega
  by_cases c : 12 < mpOf r + 3
  · have c' := Lib.hid c
    unfold mpOf doyOf yoeOf at hm0 hm1 c
    unfold doyOf yoeOf at hd0 hd1
    unfold yoeOf at hy0 hy1
    go_enter Try.func112, Try.ntmps112
    go_wp2_with (go_at_call 111; refine (civil_floor.calls _ _ _ _ _ hF.out).mono ?_; rintro e w' ⟨rfl, ⟨nd, rfl⟩⟩)
    refine bodyPost_ret (v := .agg #[_, _, _]) (by simp [results, Try.results112, go_sem]; exact ⟨rfl, rfl, rfl⟩) rfl ⟨ret_day ⟨?_, ?_, ?_⟩, by repeat (first | exact Below.refl _ _ | apply below_alloc | apply pw_below_drewN | apply below_drew1 | refine below_set ?_ (Nat.le_refl _))⟩
    · rw [hY.out, onY, if_pos c'.out]; rfl
    · rw [hM.out, onM, if_pos c'.out]; rfl
    · rw [hD.out, onD]; rfl
  · have c' := Lib.hid c
    unfold mpOf doyOf yoeOf at hm0 hm1 c
    unfold doyOf yoeOf at hd0 hd1
    unfold yoeOf at hy0 hy1
    go_enter Try.func112, Try.ntmps112
    go_wp2_with (go_at_call 111; refine (civil_floor.calls _ _ _ _ _ hF.out).mono ?_; rintro e w' ⟨rfl, ⟨nd, rfl⟩⟩)
    refine bodyPost_ret (v := .agg #[_, _, _]) (by simp [results, Try.results112, go_sem]; exact ⟨rfl, rfl, rfl⟩) rfl ⟨ret_day ⟨?_, ?_, ?_⟩, by repeat (first | exact Below.refl _ _ | apply below_alloc | apply pw_below_drewN | apply below_drew1 | refine below_set ?_ (Nat.le_refl _))⟩
    · rw [hY.out, onY, if_neg (by have := c'.out; omega)]; rfl
    · rw [hM.out, onM, if_neg (by have := c'.out; omega)]; rfl
    · rw [hD.out, onD]; rfl
/-! ### civil_Days: function 113 -/
def civil_Days.f (a0 a1 a2 : Int) : Option Int :=
  if -1000000 ≤ a0 ∧ a0 ≤ 1000000 ∧ 1 ≤ a1 ∧ a1 ≤ 12 ∧ -1000000 ≤ a2 ∧ a2 ≤ 1000000 then some (daysOf a0 a1 a2) else none
set_option maxHeartbeats 8000000 in
set_option maxRecDepth 100000 in
theorem civil_Days.calls (a0 : Int) (a1 : Int) (a2 : Int) (r : Int) (w : World) (h : civil_Days.f a0 a1 a2 = some r) :
    Calls Try.prog 113 #[.int .i64 a0, .int .i64 a1, .int .i64 a2] w fun e w' => e = .returned (.int .i64 r) ∧ Below w.heap.size w w' := by
  unfold civil_Days.f at h
  by_cases hb : -1000000 ≤ a0 ∧ a0 ≤ 1000000 ∧ 1 ≤ a1 ∧ a1 ≤ 12 ∧ -1000000 ≤ a2 ∧ a2 ≤ 1000000
  · rw [if_pos hb] at h
    obtain ⟨b1, b2, b3, b4, b5, b6⟩ := hb
    obtain rfl := Option.some.inj h
    go_enter Try.func113, Try.ntmps113
    go_wp2_with (go_at_call 119; refine (number_calls a0 a1 a2 _ b1 b2 b3 b4 b5 b6).mono ?_; rintro e w' ⟨rfl, HB⟩)
    go_ret
    exact ⟨rfl, HB⟩
  · rw [if_neg hb] at h
    cases h
/-! ### civil_Add: function 96 -/
theorem days_bd (y m d : Int) (b1 : -1000000 ≤ y) (b2 : y ≤ 1000000) (b3 : 1 ≤ m) (b4 : m ≤ 12) (b5 : -1000000 ≤ d) (b6 : d ≤ 1000000) : -400000000 ≤ daysOf y m d ∧ daysOf y m d ≤ 400000000 := by
  unfold daysOf; split <;> omega
/-- Add: the day's number, behind it. -/
def addN (y m d mo da : Int) : Int := daysOf ((12 * y + m - 1 + mo) / 12) ((12 * y + m - 1 + mo) % 12 + 1) (if d ≤ lenOf ((12 * y + m - 1 + mo) / 12) ((12 * y + m - 1 + mo) % 12 + 1) then d else lenOf ((12 * y + m - 1 + mo) / 12) ((12 * y + m - 1 + mo) % 12 + 1)) + da
def civil_Add.f (a0 a1 a2 a3 a4 : Int) : Option (Int × Int × Int × Bool) :=
  if a3 < -1000000 ∨ 1000000 < a3 ∨ a4 < -10000000 ∨ 10000000 < a4 then some (0, 0, 0, false)
  else if -100000 ≤ a0 ∧ a0 ≤ 100000 ∧ 1 ≤ a1 ∧ a1 ≤ 12 ∧ -1000000 ≤ a2 ∧ a2 ≤ 1000000 then
    (if civY (addN a0 a1 a2 a3 a4) < 1 ∨ 9999 < civY (addN a0 a1 a2 a3 a4) then some (0, 0, 0, false)
    else some (civY (addN a0 a1 a2 a3 a4), civM (addN a0 a1 a2 a3 a4), civD (addN a0 a1 a2 a3 a4), true))
  else none
set_option maxHeartbeats 8000000 in
set_option maxRecDepth 100000 in
theorem add_out (a0 a1 a2 a3 a4 : Int) (w : World) (h : a3 < -1000000 ∨ 1000000 < a3 ∨ a4 < -10000000 ∨ 10000000 < a4) :
    Calls Try.prog 96 #[.int .i64 a0, .int .i64 a1, .int .i64 a2, .int .i64 a3, .int .i64 a4] w fun e w' => e = .returned (.tuple #[.int .i64 0, .int .i64 0, .int .i64 0, .bool false]) ∧ Below w.heap.size w w' := by
  by_cases h1 : a3 < -1000000
  · clear h
    go_enter Try.func96, Try.ntmps96
    go_wp2_with fail
    refine bodyPost_ret (results_list (rs := [.tmp 10, .tmp 11, .tmp 12, .tmp 13]) rfl (by simp) (.tmp (.tmp (.tmp (.tmp .nil))))) rfl ?_
    exact ⟨rfl, Below.refl _ _⟩
  · by_cases h2 : 1000000 < a3
    · clear h
      go_enter Try.func96, Try.ntmps96
      go_wp2_with fail
      refine bodyPost_ret (results_list (rs := [.tmp 10, .tmp 11, .tmp 12, .tmp 13]) rfl (by simp) (.tmp (.tmp (.tmp (.tmp .nil))))) rfl ?_
      exact ⟨rfl, Below.refl _ _⟩
    · by_cases h3 : a4 < -10000000
      · clear h
        go_enter Try.func96, Try.ntmps96
        go_wp2_with fail
        refine bodyPost_ret (results_list (rs := [.tmp 10, .tmp 11, .tmp 12, .tmp 13]) rfl (by simp) (.tmp (.tmp (.tmp (.tmp .nil))))) rfl ?_
        exact ⟨rfl, Below.refl _ _⟩
      · have h4 : 10000000 < a4 := by omega
        clear h
        go_enter Try.func96, Try.ntmps96
        go_wp2_with fail
        refine bodyPost_ret (results_list (rs := [.tmp 10, .tmp 11, .tmp 12, .tmp 13]) rfl (by simp) (.tmp (.tmp (.tmp (.tmp .nil))))) rfl ?_
        exact ⟨rfl, Below.refl _ _⟩
/-- What Add answers, of the day that is come to. -/
def addV (Y M D : Int) : Value := if Y < 1 ∨ 9999 < Y then .tuple #[.int .i64 0, .int .i64 0, .int .i64 0, .bool false] else .tuple #[.int .i64 Y, .int .i64 M, .int .i64 D, .bool true]
set_option maxHeartbeats 8000000 in
set_option maxRecDepth 100000 in
theorem add_in (a0 a1 a2 a3 a4 : Int) (w : World) (h1 : -1000000 ≤ a3) (h2 : a3 ≤ 1000000) (h3 : -10000000 ≤ a4) (h4 : a4 ≤ 10000000) (b1 : -100000 ≤ a0) (b2 : a0 ≤ 100000) (b3 : 1 ≤ a1) (b4 : a1 ≤ 12) (b5 : -1000000 ≤ a2) (b6 : a2 ≤ 1000000) :
    Calls Try.prog 96 #[.int .i64 a0, .int .i64 a1, .int .i64 a2, .int .i64 a3, .int .i64 a4] w fun e w' =>
      e = .returned (addV (civY (addN a0 a1 a2 a3 a4)) (civM (addN a0 a1 a2 a3 a4)) (civD (addN a0 a1 a2 a3 a4))) ∧ Below w.heap.size w w' := by
  have hF := Lib.hid (civil_floor_of (12 * a0 + a1 - 1 + a3) 12 (by omega) (by omega) (by omega) (by omega))
  have hN := Lib.hid (show addN a0 a1 a2 a3 a4 = daysOf ((12 * a0 + a1 - 1 + a3) / 12) ((12 * a0 + a1 - 1 + a3) % 12 + 1) (if a2 ≤ lenOf ((12 * a0 + a1 - 1 + a3) / 12) ((12 * a0 + a1 - 1 + a3) % 12 + 1) then a2 else lenOf ((12 * a0 + a1 - 1 + a3) / 12) ((12 * a0 + a1 - 1 + a3) % 12 + 1)) + a4 from rfl)
  have hq0 : -200000 ≤ (12 * a0 + a1 - 1 + a3) / 12 := by omega
  have hq1 : (12 * a0 + a1 - 1 + a3) / 12 ≤ 200000 := by omega
  have hr0 : 0 ≤ (12 * a0 + a1 - 1 + a3) % 12 := by omega
  have hr1 : (12 * a0 + a1 - 1 + a3) % 12 < 12 := by omega
  generalize (12 * a0 + a1 - 1 + a3) / 12 = q at *
  generalize (12 * a0 + a1 - 1 + a3) % 12 = r at *
  have hL := Lib.hid (length_of q (r + 1))
  obtain ⟨hl0, hl1⟩ := len_bd q (r + 1)
  generalize lenOf q (r + 1) = L at *
  generalize addN a0 a1 a2 a3 a4 = N at *
  by_cases c : a2 ≤ L
  · have hN1 := Lib.hid (show N = daysOf q (r + 1) a2 + a4 by rw [hN.out, if_pos c])
    clear hN
    have hD := Lib.hid (show civil_Days.f q (r + 1) a2 = some (daysOf q (r + 1) a2) by unfold civil_Days.f; rw [if_pos ⟨by omega, by omega, by omega, by omega, by omega, by omega⟩])
    obtain ⟨hk0, hk1⟩ := days_bd q (r + 1) a2 (by omega) (by omega) (by omega) (by omega) (by omega) (by omega)
    generalize daysOf q (r + 1) a2 = k at *
    obtain rfl := hN1.out
    clear hN1
    have hO := fun w => Lib.hid (on_calls (k + a4) w (by omega) (by omega))
    generalize civY (k + a4) = Y at *
    generalize civM (k + a4) = M at *
    generalize civD (k + a4) = D at *
    by_cases hY1 : Y < 1
    · have hV := Lib.hid (show addV Y M D = .tuple #[.int .i64 0, .int .i64 0, .int .i64 0, .bool false] by unfold addV; rw [if_pos (Or.inl hY1)])
      go_enter Try.func96, Try.ntmps96
      go_wp2_with (first | (go_at_call 111; refine (civil_floor.calls _ _ _ _ _ hF.out).mono ?_; rintro e w' ⟨rfl, ⟨nd, rfl⟩⟩) | (go_at_call 108; refine (civil_Length.calls _ _ _ _ hL.out).mono ?_; rintro e w' ⟨rfl, ⟨nd, rfl⟩⟩) | (go_at_call 113; refine (civil_Days.calls _ _ _ _ _ hD.out).mono ?_; rintro e w1 ⟨rfl, HB1⟩) | (go_at_call 112; refine (hO _).out.mono ?_; rintro e w2 ⟨rfl, HB2⟩))
      refine bodyPost_ret (results_list (rs := [.tmp 10, .tmp 11, .tmp 12, .tmp 13]) rfl (by simp) (.tmp (.tmp (.tmp (.tmp .nil))))) rfl ?_
      exact ⟨congrArg Ending.returned (by rw [hV.out]; rfl), by have HB := below_then (below_then (pw_below_drewN (Below.refl _ _) _) (Nat.le_refl _) HB1) HB1.size HB2; repeat (first | exact HB | apply below_alloc | apply pw_below_drewN | apply below_drew1 | refine below_set ?_ HB.size)⟩
    · by_cases hY2 : 9999 < Y
      · have hV := Lib.hid (show addV Y M D = .tuple #[.int .i64 0, .int .i64 0, .int .i64 0, .bool false] by unfold addV; rw [if_pos (Or.inr hY2)])
        go_enter Try.func96, Try.ntmps96
        go_wp2_with (first | (go_at_call 111; refine (civil_floor.calls _ _ _ _ _ hF.out).mono ?_; rintro e w' ⟨rfl, ⟨nd, rfl⟩⟩) | (go_at_call 108; refine (civil_Length.calls _ _ _ _ hL.out).mono ?_; rintro e w' ⟨rfl, ⟨nd, rfl⟩⟩) | (go_at_call 113; refine (civil_Days.calls _ _ _ _ _ hD.out).mono ?_; rintro e w1 ⟨rfl, HB1⟩) | (go_at_call 112; refine (hO _).out.mono ?_; rintro e w2 ⟨rfl, HB2⟩))
        refine bodyPost_ret (results_list (rs := [.tmp 10, .tmp 11, .tmp 12, .tmp 13]) rfl (by simp) (.tmp (.tmp (.tmp (.tmp .nil))))) rfl ?_
        exact ⟨congrArg Ending.returned (by rw [hV.out]; rfl), by have HB := below_then (below_then (pw_below_drewN (Below.refl _ _) _) (Nat.le_refl _) HB1) HB1.size HB2; repeat (first | exact HB | apply below_alloc | apply pw_below_drewN | apply below_drew1 | refine below_set ?_ HB.size)⟩
      · have hV := Lib.hid (show addV Y M D = .tuple #[.int .i64 Y, .int .i64 M, .int .i64 D, .bool true] by unfold addV; rw [if_neg (by omega)])
        go_enter Try.func96, Try.ntmps96
        go_wp2_with (first | (go_at_call 111; refine (civil_floor.calls _ _ _ _ _ hF.out).mono ?_; rintro e w' ⟨rfl, ⟨nd, rfl⟩⟩) | (go_at_call 108; refine (civil_Length.calls _ _ _ _ hL.out).mono ?_; rintro e w' ⟨rfl, ⟨nd, rfl⟩⟩) | (go_at_call 113; refine (civil_Days.calls _ _ _ _ _ hD.out).mono ?_; rintro e w1 ⟨rfl, HB1⟩) | (go_at_call 112; refine (hO _).out.mono ?_; rintro e w2 ⟨rfl, HB2⟩))
        go_quiet (fail)
        go_wp2_with fail
        refine bodyPost_ret (results_list (rs := [.tmp 10, .tmp 11, .tmp 12, .tmp 13]) rfl (by simp) (.tmp (.tmp (.tmp (.tmp .nil))))) rfl ?_
        exact ⟨congrArg Ending.returned (by rw [hV.out]; rfl), by have HB := below_then (below_then (pw_below_drewN (Below.refl _ _) _) (Nat.le_refl _) HB1) HB1.size HB2; repeat (first | exact HB | apply below_alloc | apply pw_below_drewN | apply below_drew1 | refine below_set ?_ HB.size)⟩
  · have hN1 := Lib.hid (show N = daysOf q (r + 1) L + a4 by rw [hN.out, if_neg c])
    clear hN
    have hD := Lib.hid (show civil_Days.f q (r + 1) L = some (daysOf q (r + 1) L) by unfold civil_Days.f; rw [if_pos ⟨by omega, by omega, by omega, by omega, by omega, by omega⟩])
    obtain ⟨hk0, hk1⟩ := days_bd q (r + 1) L (by omega) (by omega) (by omega) (by omega) (by omega) (by omega)
    generalize daysOf q (r + 1) L = k at *
    obtain rfl := hN1.out
    clear hN1
    have hO := fun w => Lib.hid (on_calls (k + a4) w (by omega) (by omega))
    generalize civY (k + a4) = Y at *
    generalize civM (k + a4) = M at *
    generalize civD (k + a4) = D at *
    by_cases hY1 : Y < 1
    · have hV := Lib.hid (show addV Y M D = .tuple #[.int .i64 0, .int .i64 0, .int .i64 0, .bool false] by unfold addV; rw [if_pos (Or.inl hY1)])
      go_enter Try.func96, Try.ntmps96
      go_wp2_with (first | (go_at_call 111; refine (civil_floor.calls _ _ _ _ _ hF.out).mono ?_; rintro e w' ⟨rfl, ⟨nd, rfl⟩⟩) | (go_at_call 108; refine (civil_Length.calls _ _ _ _ hL.out).mono ?_; rintro e w' ⟨rfl, ⟨nd, rfl⟩⟩) | (go_at_call 113; refine (civil_Days.calls _ _ _ _ _ hD.out).mono ?_; rintro e w1 ⟨rfl, HB1⟩) | (go_at_call 112; refine (hO _).out.mono ?_; rintro e w2 ⟨rfl, HB2⟩))
      refine bodyPost_ret (results_list (rs := [.tmp 10, .tmp 11, .tmp 12, .tmp 13]) rfl (by simp) (.tmp (.tmp (.tmp (.tmp .nil))))) rfl ?_
      exact ⟨congrArg Ending.returned (by rw [hV.out]; rfl), by have HB := below_then (below_then (pw_below_drewN (Below.refl _ _) _) (Nat.le_refl _) HB1) HB1.size HB2; repeat (first | exact HB | apply below_alloc | apply pw_below_drewN | apply below_drew1 | refine below_set ?_ HB.size)⟩
    · by_cases hY2 : 9999 < Y
      · have hV := Lib.hid (show addV Y M D = .tuple #[.int .i64 0, .int .i64 0, .int .i64 0, .bool false] by unfold addV; rw [if_pos (Or.inr hY2)])
        go_enter Try.func96, Try.ntmps96
        go_wp2_with (first | (go_at_call 111; refine (civil_floor.calls _ _ _ _ _ hF.out).mono ?_; rintro e w' ⟨rfl, ⟨nd, rfl⟩⟩) | (go_at_call 108; refine (civil_Length.calls _ _ _ _ hL.out).mono ?_; rintro e w' ⟨rfl, ⟨nd, rfl⟩⟩) | (go_at_call 113; refine (civil_Days.calls _ _ _ _ _ hD.out).mono ?_; rintro e w1 ⟨rfl, HB1⟩) | (go_at_call 112; refine (hO _).out.mono ?_; rintro e w2 ⟨rfl, HB2⟩))
        refine bodyPost_ret (results_list (rs := [.tmp 10, .tmp 11, .tmp 12, .tmp 13]) rfl (by simp) (.tmp (.tmp (.tmp (.tmp .nil))))) rfl ?_
        exact ⟨congrArg Ending.returned (by rw [hV.out]; rfl), by have HB := below_then (below_then (pw_below_drewN (Below.refl _ _) _) (Nat.le_refl _) HB1) HB1.size HB2; repeat (first | exact HB | apply below_alloc | apply pw_below_drewN | apply below_drew1 | refine below_set ?_ HB.size)⟩
      · have hV := Lib.hid (show addV Y M D = .tuple #[.int .i64 Y, .int .i64 M, .int .i64 D, .bool true] by unfold addV; rw [if_neg (by omega)])
        go_enter Try.func96, Try.ntmps96
        go_wp2_with (first | (go_at_call 111; refine (civil_floor.calls _ _ _ _ _ hF.out).mono ?_; rintro e w' ⟨rfl, ⟨nd, rfl⟩⟩) | (go_at_call 108; refine (civil_Length.calls _ _ _ _ hL.out).mono ?_; rintro e w' ⟨rfl, ⟨nd, rfl⟩⟩) | (go_at_call 113; refine (civil_Days.calls _ _ _ _ _ hD.out).mono ?_; rintro e w1 ⟨rfl, HB1⟩) | (go_at_call 112; refine (hO _).out.mono ?_; rintro e w2 ⟨rfl, HB2⟩))
        go_quiet (fail)
        go_wp2_with fail
        refine bodyPost_ret (results_list (rs := [.tmp 10, .tmp 11, .tmp 12, .tmp 13]) rfl (by simp) (.tmp (.tmp (.tmp (.tmp .nil))))) rfl ?_
        exact ⟨congrArg Ending.returned (by rw [hV.out]; rfl), by have HB := below_then (below_then (pw_below_drewN (Below.refl _ _) _) (Nat.le_refl _) HB1) HB1.size HB2; repeat (first | exact HB | apply below_alloc | apply pw_below_drewN | apply below_drew1 | refine below_set ?_ HB.size)⟩
set_option maxHeartbeats 8000000 in
set_option maxRecDepth 100000 in
theorem civil_Add.calls (a0 : Int) (a1 : Int) (a2 : Int) (a3 : Int) (a4 : Int) (r1 : Int) (r2 : Int) (r3 : Int) (r4 : Bool) (w : World) (h : civil_Add.f a0 a1 a2 a3 a4 = some (r1, r2, r3, r4)) :
    Calls Try.prog 96 #[.int .i64 a0, .int .i64 a1, .int .i64 a2, .int .i64 a3, .int .i64 a4] w fun e w' => e = .returned (.tuple #[.int .i64 r1, .int .i64 r2, .int .i64 r3, .bool r4]) ∧ Below w.heap.size w w' := by
  unfold civil_Add.f at h
  by_cases ho : a3 < -1000000 ∨ 1000000 < a3 ∨ a4 < -10000000 ∨ 10000000 < a4
  · rw [if_pos ho] at h
    simp only [Option.some.injEq, Prod.mk.injEq] at h
    obtain ⟨rfl, rfl, rfl, rfl⟩ := h
    exact add_out a0 a1 a2 a3 a4 w ho
  · rw [if_neg ho] at h
    by_cases hb : -100000 ≤ a0 ∧ a0 ≤ 100000 ∧ 1 ≤ a1 ∧ a1 ≤ 12 ∧ -1000000 ≤ a2 ∧ a2 ≤ 1000000
    · rw [if_pos hb] at h
      obtain ⟨b1, b2, b3, b4, b5, b6⟩ := hb
      have hA := add_in a0 a1 a2 a3 a4 w (by omega) (by omega) (by omega) (by omega) b1 b2 b3 b4 b5 b6
      have e : addV (civY (addN a0 a1 a2 a3 a4)) (civM (addN a0 a1 a2 a3 a4)) (civD (addN a0 a1 a2 a3 a4)) = .tuple #[.int .i64 r1, .int .i64 r2, .int .i64 r3, .bool r4] := by
        unfold addV
        split at h <;> rename_i hc
        · simp only [Option.some.injEq, Prod.mk.injEq] at h
          obtain ⟨rfl, rfl, rfl, rfl⟩ := h
          rw [if_pos hc]
        · simp only [Option.some.injEq, Prod.mk.injEq] at h
          obtain ⟨rfl, rfl, rfl, rfl⟩ := h
          rw [if_neg hc]
      rw [e] at hA
      exact hA
    · rw [if_neg hb] at h
      cases h
/-! ### civil_Weekday: function 97 -/
def civil_Weekday.f (a0 : Int) (a1 : Int) (a2 : Int) : Option (Int) := (civil_Days.f a0 a1 a2).bind fun t203 => ((civil_floor.f (wrap64 (t203 + 3)) 7).bind fun bt204 => (some bt204.2))
set_option maxHeartbeats 8000000 in
set_option maxRecDepth 100000 in
theorem civil_Weekday.calls (a0 : Int) (a1 : Int) (a2 : Int) (r : Int) (w : World) (h : civil_Weekday.f a0 a1 a2 = some r) :
    Calls Try.prog 97 #[.int .i64 a0, .int .i64 a1, .int .i64 a2] w fun e w' => e = .returned (.int .i64 r) ∧ Below w.heap.size w w' := by
  have HB := Aside0.mk (Below.refl w.heap.size w)
  have H : ((civil_Days.f a0 a1 a2).bind fun t203 => ((civil_floor.f (wrap64 (t203 + 3)) 7).bind fun bt204 => (some bt204.2))) = some r := h
  clear h
  replace H := Option.bind_eq_some_iff.mp H
  obtain ⟨t203, A40, H⟩ := H
  replace H : ((civil_floor.f (wrap64 (t203 + 3)) 7).bind fun bt204 => (some bt204.2)) = some r := H
  have A4 := Aside0.mk A40
  clear A40
  replace H := Option.bind_eq_some_iff.mp H
  obtain ⟨⟨t204, t205⟩, A50, H⟩ := H
  replace H : (some t205) = some r := H
  have A5 := Aside0.mk A50
  clear A50
  obtain rfl := Option.some.inj H
  go_enter Try.func97, Try.ntmps97
  go_wp2_with (first | ((with_reducible refine gate_callee (f := 113) rfl ?_); refine goesL_ (some 13) rfl rfl Try.func113 (by kernel_rfl) rfl #[.int .i64 a0, .int .i64 a1, .int .i64 a2] rfl (by (try simp only [List.map_toArray, List.map_cons, List.map_nil]); first | done | rfl | (simp only [List.length_drop, List.length_take]; rfl)) ?_; (with_reducible refine (civil_Days.calls a0 a1 a2 t203 _ A4.out).mono ?_); rintro e w6 ⟨rfl, hb⟩; refine ⟨_, rfl, ?_⟩; have n0_ := Aside0.mk (below_step (by repeat (first | (with_reducible first | exact HB.out | apply below_alloc | apply pw_below_drewN | apply below_drew1) | exact HB.out)) hb); clear HB; have HB := n0_; clear n0_; (try clear hb); (try clear hb2); (try clear hk); (try clear hi)) | ((with_reducible refine gate_callee (f := 111) rfl ?_); refine goesL_ (some 15) rfl rfl Try.func111 (by kernel_rfl) rfl #[.int .i64 (wrap64 (t203 + 3)), .int .i64 7] rfl (by (try simp only [List.map_toArray, List.map_cons, List.map_nil]); first | done | rfl | (simp only [List.length_drop, List.length_take]; rfl)) ?_; (with_reducible refine (civil_floor.calls (wrap64 (t203 + 3)) 7 t204 t205 _ A5.out).mono ?_); rintro e w' ⟨rfl, ⟨nd, rfl⟩⟩; refine ⟨_, rfl, ?_⟩))
  go_ret
  exact ⟨by first | rfl | (simp [errW_none, errW_some] <;> rfl) | (simp [*, errW_none, errW_some] <;> rfl), by repeat (first | (with_reducible first | exact HB.out | apply below_alloc | apply pw_below_drewN | apply below_drew1) | exact HB.out)⟩
/-! ### dec_ten: function 114 -/
def dec_ten.l0 : Nat → Int → Int → Int → Option (Int)
  | 0, _, _, _ => none
  | k + 1, x3, x4, x5 => if x5 < x4 then (dec_ten.l0 k (wrap64 (x3 * 10)) x4 (wrap64 (x5 + 1))) else (some x3)
def dec_ten.f (k : Nat) (a0 : Int) : Option (Int) := dec_ten.l0 k 1 a0 0
set_option maxHeartbeats 8000000 in
set_option maxRecDepth 100000 in
theorem dec_ten.calls (k : Nat) (a0 : Int) (r : Int) (w : World) (h : dec_ten.f k a0 = some r) :
    Calls Try.prog 114 #[.int .i64 a0] w fun e w' => e = .returned (.int .i64 r) ∧ Drawn0 w w' := by
  have H : (dec_ten.l0 k 1 a0 0) = some r := h
  clear h
  have H' := Aside0.mk H
  clear H
  go_enter Try.func114, Try.ntmps114
  go_wp2
  go_loopg [3, 5] k (fun kq v3 v5 w' => ∃ (x3_1 : Int) (x5_1 : Int), v3 = .int .i64 x3_1 ∧ v5 = .int .i64 x5_1 ∧ Aside0 (dec_ten.l0 kq x3_1 a0 x5_1 = some r) ∧ Aside0 (kq ≤ k) ∧ Drawn0 w w')
  case atStart => exact ⟨(1), (0), (by first | rfl | (simp; done) | (simp [*]; done)), (by first | rfl | (simp; done) | (simp [*]; done)), H', ⟨Nat.le_refl _⟩, by repeat (first | exact Drawn0.refl _ | apply Drawn0.step)⟩
  case round =>
    clear H'
    try clear c1
    obtain ⟨x3_1, x5_1, rfl, rfl, HA, HK1, ⟨m1, rfl⟩⟩ := hrel
    cases gk with
    | zero => exact absurd HA.out (by simp [dec_ten.l0])
    | succ k1 =>
      have H := HA.out
      clear HA
      simp only [dec_ten.l0] at H
      by_cases c2 : x5_1 < a0
      · rw [if_pos c2] at H
        have c2b0 : decide (x5_1 < a0) = true := decide_eq_true c2
        clear c2
        have H' := Aside0.mk H
        clear H
        go_wp2
        go_roundg k1
        case measure => have := HK1.out; omega
        case rel => exact ⟨(wrap64 (x3_1 * 10)), (wrap64 (x5_1 + 1)), (by first | rfl | (simp; done) | (simp [*]; done)), (by first | rfl | (simp; done) | (simp [*]; done)), H', ⟨by have := HK1.out; omega⟩, by repeat (first | exact Drawn0.refl _ | apply Drawn0.step)⟩
      · rw [if_neg c2] at H
        have c2b0 : decide (x5_1 < a0) = false := decide_eq_false c2
        clear c2
        obtain rfl := Option.some.inj H
        go_wp2
        go_ret
        exact ⟨by first | rfl | (simp; done) | (simp [*]; done), by repeat (first | exact Drawn0.refl _ | apply Drawn0.step)⟩
/-! ### dec_bound: function 115 -/
def dec_bound.f (k : Nat)  : Option (Int) := (dec_ten.f k 18).bind fun t162 => (some t162)
set_option maxHeartbeats 8000000 in
set_option maxRecDepth 100000 in
theorem dec_bound.calls (k : Nat)  (r : Int) (w : World) (h : dec_bound.f k  = some r) :
    Calls Try.prog 115 #[] w fun e w' => e = .returned (.int .i64 r) ∧ Drawn0 w w' := by
  have H : ((dec_ten.f k 18).bind fun t162 => (some t162)) = some r := h
  clear h
  replace H := Option.bind_eq_some_iff.mp H
  obtain ⟨t162, A10, H⟩ := H
  replace H : (some t162) = some r := H
  have A1 := Aside0.mk A10
  clear A10
  obtain rfl := Option.some.inj H
  go_enter Try.func115, Try.ntmps115
  go_wp2_with (first | ((with_reducible refine gate_callee (f := 114) rfl ?_); refine goesL_ (some 1) rfl rfl Try.func114 (by kernel_rfl) rfl #[.int .i64 18] rfl (by (try simp only [List.map_toArray, List.map_cons, List.map_nil]); first | done | rfl | (simp only [List.length_drop, List.length_take]; rfl)) ?_; (with_reducible refine (dec_ten.calls k 18 t162 _ A1.out).mono ?_); rintro e w' ⟨rfl, ⟨nd, rfl⟩⟩; refine ⟨_, rfl, ?_⟩))
  go_ret
  exact ⟨by first | rfl | (simp; done) | (simp [*]; done), by repeat (first | exact Drawn0.refl _ | apply Drawn0.step)⟩
/-! ### dec_Join: function 99 -/
def dec_Join.j0 : Nat → Int → Int → Int → Bool → Option (Int × Int × Bool)
  | 0, _, _, _, _ => none
  | k + 1, x0, x1, x2, x28 => if x28 = true then (some (0, 0, false)) else ((dec_bound.f k).bind fun t225 => ((dec_ten.f k x2).bind fun t226 => (if t226 = 0 then (none) else (if x0 > (wrap64 (Int.tdiv (wrap64 ((wrap64 (t225 - 1)) - x1)) t226)) then (some (0, 0, false)) else ((dec_ten.f k x2).bind fun t227 => ((dec_Norm.f (wrap64 ((wrap64 (x0 * t227)) + x1)) x2).bind fun bt228 => (some (bt228.1, bt228.2, true))))))))
def dec_Join.f (k : Nat) (a0 : Int) (a1 : Int) (a2 : Int) : Option (Int × Int × Bool) := if a0 < 0 then (dec_Join.j0 k a0 a1 a2 true) else (if a1 < 0 then (dec_Join.j0 k a0 a1 a2 true) else (if a2 < 0 then (dec_Join.j0 k a0 a1 a2 true) else (if a2 > 18 then (dec_Join.j0 k a0 a1 a2 true) else ((dec_ten.f k a2).bind fun t224 => (dec_Join.j0 k a0 a1 a2 (decide (a1 ≥ t224)))))))
set_option maxHeartbeats 8000000 in
set_option maxRecDepth 100000 in
theorem dec_Join.calls (k : Nat) (a0 : Int) (a1 : Int) (a2 : Int) (r1 : Int) (r2 : Int) (r3 : Bool) (w : World) (h : dec_Join.f k a0 a1 a2 = some (r1, r2, r3)) :
    Calls Try.prog 99 #[.int .i64 a0, .int .i64 a1, .int .i64 a2] w fun e w' => e = .returned (.tuple #[.int .i64 r1, .int .i64 r2, .bool r3]) ∧ Drawn0 w w' := by
  have H : (if a0 < 0 then (dec_Join.j0 k a0 a1 a2 true) else (if a1 < 0 then (dec_Join.j0 k a0 a1 a2 true) else (if a2 < 0 then (dec_Join.j0 k a0 a1 a2 true) else (if a2 > 18 then (dec_Join.j0 k a0 a1 a2 true) else ((dec_ten.f k a2).bind fun t224 => (dec_Join.j0 k a0 a1 a2 (decide (a1 ≥ t224)))))))) = some (r1, r2, r3) := h
  clear h
  have HC4 := Aside0.mk H
  clear H
  go_enter Try.func99, Try.ntmps99
  go_upto_region 1 with (fail)
  go_cut [28] (fun v28 wc => ∃ (kq : Nat) (x28_3 : Bool), v28 = .bool x28_3 ∧ Aside0 (dec_Join.j0 kq a0 a1 a2 x28_3 = some (r1, r2, r3)) ∧ Aside0 (kq ≤ k) ∧ Drawn0 w wc)
  case first =>
    have H := HC4.out
    clear HC4
    by_cases c5 : a0 < 0
    · rw [if_pos c5] at H
      have c5b0 : decide (a0 < 0) = true := decide_eq_true c5
      clear c5
      (first | rw [c5b0] | (simp only [i64_w, i32_w]; rw [c5b0]) | skip)
      have H' := Aside0.mk H
      clear H
      go_wp2
      go_meet
      case rel => exact ⟨_, (true), (by first | rfl | (simp; done) | (simp [*]; done)), H', ⟨by first | omega | exact Nat.le_refl _⟩, by repeat (first | exact Drawn0.refl _ | apply Drawn0.step)⟩
    · rw [if_neg c5] at H
      have c5b0 : decide (a0 < 0) = false := decide_eq_false c5
      clear c5
      (first | rw [c5b0] | (simp only [i64_w, i32_w]; rw [c5b0]) | skip)
      by_cases c6 : a1 < 0
      · rw [if_pos c6] at H
        have c6b0 : decide (a1 < 0) = true := decide_eq_true c6
        clear c6
        have H' := Aside0.mk H
        clear H
        go_wp2
        go_meet
        case rel => exact ⟨_, (true), (by first | rfl | (simp; done) | (simp [*]; done)), H', ⟨by first | omega | exact Nat.le_refl _⟩, by repeat (first | exact Drawn0.refl _ | apply Drawn0.step)⟩
      · rw [if_neg c6] at H
        have c6b0 : decide (a1 < 0) = false := decide_eq_false c6
        clear c6
        by_cases c7 : a2 < 0
        · rw [if_pos c7] at H
          have c7b0 : decide (a2 < 0) = true := decide_eq_true c7
          clear c7
          have H' := Aside0.mk H
          clear H
          go_wp2
          go_meet
          case rel => exact ⟨_, (true), (by first | rfl | (simp; done) | (simp [*]; done)), H', ⟨by first | omega | exact Nat.le_refl _⟩, by repeat (first | exact Drawn0.refl _ | apply Drawn0.step)⟩
        · rw [if_neg c7] at H
          have c7b0 : decide (a2 < 0) = false := decide_eq_false c7
          clear c7
          by_cases c8 : a2 > 18
          · rw [if_pos c8] at H
            have c8b0 : decide (18 < a2) = true := decide_eq_true c8
            clear c8
            have H' := Aside0.mk H
            clear H
            go_wp2
            go_meet
            case rel => exact ⟨_, (true), (by first | rfl | (simp; done) | (simp [*]; done)), H', ⟨by first | omega | exact Nat.le_refl _⟩, by repeat (first | exact Drawn0.refl _ | apply Drawn0.step)⟩
          · rw [if_neg c8] at H
            have c8b0 : decide (18 < a2) = false := decide_eq_false c8
            clear c8
            replace H := Option.bind_eq_some_iff.mp H
            obtain ⟨t224, A90, H⟩ := H
            replace H : (dec_Join.j0 k a0 a1 a2 (decide (a1 ≥ t224))) = some (r1, r2, r3) := H
            have A9 := Aside0.mk A90
            clear A90
            have H' := Aside0.mk H
            clear H
            go_wp2_with (first | (go_at_call 114; (with_reducible refine (dec_ten.calls k a2 t224 _ A9.out).mono ?_); rintro e w' ⟨rfl, ⟨nd, rfl⟩⟩))
            go_meet
            case rel => exact ⟨_, (decide (a1 ≥ t224)), (by first | rfl | (simp; done) | (simp [*]; done)), H', ⟨by first | omega | exact Nat.le_refl _⟩, by repeat (first | exact Drawn0.refl _ | apply Drawn0.step)⟩
  case rest =>
    clear HC4
    try clear p2
    try clear c5
    try clear c5b0
    try clear c6
    try clear c6b0
    try clear c7
    try clear c7b0
    try clear c8
    try clear c8b0
    try clear c9
    obtain ⟨kq, x28_3, rfl, HA, HJ3, ⟨mc3, rfl⟩⟩ := hcut
    cases kq with
    | zero => exact absurd HA.out (by simp [dec_Join.j0])
    | succ kj3 =>
      have H := HA.out
      clear HA
      simp only [dec_Join.j0] at H
      by_cases c10 : x28_3 = true
      · subst c10
        have H1 : (some (0, 0, false)) = some (r1, r2, r3) := by rw [if_pos rfl] at H; exact H
        clear H
        have H := H1
        clear H1
        simp only [Option.some.injEq, Prod.mk.injEq] at H
        obtain ⟨rfl, rfl, rfl⟩ := H
        go_wp2
        go_ret3
        exact ⟨by first | rfl | (simp; done) | (simp [*]; done), by repeat (first | exact Drawn0.refl _ | apply Drawn0.step)⟩
      · replace c10 := Bool.eq_false_iff.mpr c10
        subst c10
        have H1 : ((dec_bound.f kj3).bind fun t225 => ((dec_ten.f kj3 a2).bind fun t226 => (if t226 = 0 then (none) else (if a0 > (wrap64 (Int.tdiv (wrap64 ((wrap64 (t225 - 1)) - a1)) t226)) then (some (0, 0, false)) else ((dec_ten.f kj3 a2).bind fun t227 => ((dec_Norm.f (wrap64 ((wrap64 (a0 * t227)) + a1)) a2).bind fun bt228 => (some (bt228.1, bt228.2, true)))))))) = some (r1, r2, r3) := by rw [if_neg (show ¬ (false = true) by decide)] at H; exact H
        clear H
        have H := H1
        clear H1
        replace H := Option.bind_eq_some_iff.mp H
        obtain ⟨t225, A110, H⟩ := H
        replace H : ((dec_ten.f kj3 a2).bind fun t226 => (if t226 = 0 then (none) else (if a0 > (wrap64 (Int.tdiv (wrap64 ((wrap64 (t225 - 1)) - a1)) t226)) then (some (0, 0, false)) else ((dec_ten.f kj3 a2).bind fun t227 => ((dec_Norm.f (wrap64 ((wrap64 (a0 * t227)) + a1)) a2).bind fun bt228 => (some (bt228.1, bt228.2, true))))))) = some (r1, r2, r3) := H
        have A11 := Aside0.mk A110
        clear A110
        replace H := Option.bind_eq_some_iff.mp H
        obtain ⟨t226, A120, H⟩ := H
        replace H : (if t226 = 0 then (none) else (if a0 > (wrap64 (Int.tdiv (wrap64 ((wrap64 (t225 - 1)) - a1)) t226)) then (some (0, 0, false)) else ((dec_ten.f kj3 a2).bind fun t227 => ((dec_Norm.f (wrap64 ((wrap64 (a0 * t227)) + a1)) a2).bind fun bt228 => (some (bt228.1, bt228.2, true)))))) = some (r1, r2, r3) := H
        have A12 := Aside0.mk A120
        clear A120
        by_cases c13 : t226 = 0
        · rw [if_pos c13] at H
          exact absurd H (by simp)
        · rw [if_neg c13] at H
          have c13b0 : (t226 == 0) = false := beq_eq_false_iff_ne.mpr c13
          have c13b1 : (t226 != 0) = true := bne_iff_ne.mpr c13
          by_cases c14 : a0 > (wrap64 (Int.tdiv (wrap64 ((wrap64 (t225 - 1)) - a1)) t226))
          · rw [if_pos c14] at H
            have c14b0 : decide ((wrap64 (Int.tdiv (wrap64 ((wrap64 (t225 - 1)) - a1)) t226)) < a0) = true := decide_eq_true c14
            clear c14
            simp only [Option.some.injEq, Prod.mk.injEq] at H
            obtain ⟨rfl, rfl, rfl⟩ := H
            go_wp2_with (first | ((with_reducible refine gate_callee (f := 115) rfl ?_); refine goesL_ (some 30) rfl rfl Try.func115 (by kernel_rfl) rfl #[] rfl (by (try simp only [List.map_toArray, List.map_cons, List.map_nil]); first | done | rfl | (simp only [List.length_drop, List.length_take]; rfl)) ?_; (with_reducible refine (dec_bound.calls kj3  t225 _ A11.out).mono ?_); rintro e w' ⟨rfl, ⟨nd, rfl⟩⟩; refine ⟨_, rfl, ?_⟩) | ((with_reducible refine gate_callee (f := 114) rfl ?_); refine goesL_ (some 35) rfl rfl Try.func114 (by kernel_rfl) rfl #[.int .i64 a2] rfl (by (try simp only [List.map_toArray, List.map_cons, List.map_nil]); first | done | rfl | (simp only [List.length_drop, List.length_take]; rfl)) ?_; (with_reducible refine (dec_ten.calls kj3 a2 t226 _ A12.out).mono ?_); rintro e w' ⟨rfl, ⟨nd, rfl⟩⟩; refine ⟨_, rfl, ?_⟩))
            go_ret3
            exact ⟨by first | rfl | (simp; done) | (simp [*]; done), by repeat (first | exact Drawn0.refl _ | apply Drawn0.step)⟩
          · rw [if_neg c14] at H
            have c14b0 : decide ((wrap64 (Int.tdiv (wrap64 ((wrap64 (t225 - 1)) - a1)) t226)) < a0) = false := decide_eq_false c14
            clear c14
            replace H := Option.bind_eq_some_iff.mp H
            obtain ⟨t227, A150, H⟩ := H
            replace H : ((dec_Norm.f (wrap64 ((wrap64 (a0 * t227)) + a1)) a2).bind fun bt228 => (some (bt228.1, bt228.2, true))) = some (r1, r2, r3) := H
            have A15 := Aside0.mk A150
            clear A150
            replace H := Option.bind_eq_some_iff.mp H
            obtain ⟨⟨t228, t229⟩, A160, H⟩ := H
            replace H : (some (t228, t229, true)) = some (r1, r2, r3) := H
            have A16 := Aside0.mk A160
            clear A160
            simp only [Option.some.injEq, Prod.mk.injEq] at H
            obtain ⟨rfl, rfl, rfl⟩ := H
            go_wp2_with (first | ((with_reducible refine gate_callee (f := 115) rfl ?_); refine goesL_ (some 30) rfl rfl Try.func115 (by kernel_rfl) rfl #[] rfl (by (try simp only [List.map_toArray, List.map_cons, List.map_nil]); first | done | rfl | (simp only [List.length_drop, List.length_take]; rfl)) ?_; (with_reducible refine (dec_bound.calls kj3  t225 _ A11.out).mono ?_); rintro e w' ⟨rfl, ⟨nd, rfl⟩⟩; refine ⟨_, rfl, ?_⟩) | ((with_reducible refine gate_callee (f := 114) rfl ?_); refine goesL_ (some 35) rfl rfl Try.func114 (by kernel_rfl) rfl #[.int .i64 a2] rfl (by (try simp only [List.map_toArray, List.map_cons, List.map_nil]); first | done | rfl | (simp only [List.length_drop, List.length_take]; rfl)) ?_; (with_reducible refine (dec_ten.calls kj3 a2 t226 _ A12.out).mono ?_); rintro e w' ⟨rfl, ⟨nd, rfl⟩⟩; refine ⟨_, rfl, ?_⟩) | ((with_reducible refine gate_callee (f := 114) rfl ?_); refine goesL_ (some 41) rfl rfl Try.func114 (by kernel_rfl) rfl #[.int .i64 a2] rfl (by (try simp only [List.map_toArray, List.map_cons, List.map_nil]); first | done | rfl | (simp only [List.length_drop, List.length_take]; rfl)) ?_; (with_reducible refine (dec_ten.calls kj3 a2 t227 _ A15.out).mono ?_); rintro e w' ⟨rfl, ⟨nd, rfl⟩⟩; refine ⟨_, rfl, ?_⟩) | ((with_reducible refine gate_callee (f := 86) rfl ?_); refine goesL_ (some 46) rfl rfl Try.func86 (by kernel_rfl) rfl #[.int .i64 (wrap64 ((wrap64 (a0 * t227)) + a1)), .int .i64 a2] rfl (by (try simp only [List.map_toArray, List.map_cons, List.map_nil]); first | done | rfl | (simp only [List.length_drop, List.length_take]; rfl)) ?_; (with_reducible refine (dec_Norm.calls (wrap64 ((wrap64 (a0 * t227)) + a1)) a2 t228 t229 _ A16.out).mono ?_); rintro e w' ⟨rfl, ⟨nd, rfl⟩⟩; refine ⟨_, rfl, ?_⟩))
            go_ret3
            exact ⟨by first | rfl | (simp; done) | (simp [*]; done), by repeat (first | exact Drawn0.refl _ | apply Drawn0.step)⟩
/-! ### dec_Scaled: function 100 -/
def dec_Scaled.f (k : Nat) (a0 : Int) (a1 : Int) (a2 : Int) : Option (Int × Bool) := (dec_Norm.f a0 a1).bind fun bt163 => (if bt163.1 = 0 then (some (0, true)) else (if a2 < bt163.2 then (some (0, false)) else (if (wrap64 (a2 - bt163.2)) > 18 then (some (0, false)) else ((dec_bound.f k).bind fun t165 => ((dec_ten.f k (wrap64 (a2 - bt163.2))).bind fun t166 => (if t166 = 0 then (none) else (if (mx bt163.1 (wrap64 (-bt163.1))) > (wrap64 (Int.tdiv (wrap64 (t165 - 1)) t166)) then (some (0, false)) else ((dec_ten.f k (wrap64 (a2 - bt163.2))).bind fun t167 => (some (wrap64 (bt163.1 * t167), true))))))))))
set_option maxHeartbeats 8000000 in
set_option maxRecDepth 100000 in
theorem dec_Scaled.calls (k : Nat) (a0 : Int) (a1 : Int) (a2 : Int) (r1 : Int) (r2 : Bool) (w : World) (h : dec_Scaled.f k a0 a1 a2 = some (r1, r2)) :
    Calls Try.prog 100 #[.int .i64 a0, .int .i64 a1, .int .i64 a2] w fun e w' => e = .returned (.tuple #[.int .i64 r1, .bool r2]) ∧ Below w.heap.size w w' := by
  have HB := Aside0.mk (Below.refl w.heap.size w)
  have H : ((dec_Norm.f a0 a1).bind fun bt163 => (if bt163.1 = 0 then (some (0, true)) else (if a2 < bt163.2 then (some (0, false)) else (if (wrap64 (a2 - bt163.2)) > 18 then (some (0, false)) else ((dec_bound.f k).bind fun t165 => ((dec_ten.f k (wrap64 (a2 - bt163.2))).bind fun t166 => (if t166 = 0 then (none) else (if (mx bt163.1 (wrap64 (-bt163.1))) > (wrap64 (Int.tdiv (wrap64 (t165 - 1)) t166)) then (some (0, false)) else ((dec_ten.f k (wrap64 (a2 - bt163.2))).bind fun t167 => (some (wrap64 (bt163.1 * t167), true))))))))))) = some (r1, r2) := h
  clear h
  replace H := Option.bind_eq_some_iff.mp H
  obtain ⟨⟨t163, t164⟩, A40, H⟩ := H
  replace H : (if t163 = 0 then (some (0, true)) else (if a2 < t164 then (some (0, false)) else (if (wrap64 (a2 - t164)) > 18 then (some (0, false)) else ((dec_bound.f k).bind fun t165 => ((dec_ten.f k (wrap64 (a2 - t164))).bind fun t166 => (if t166 = 0 then (none) else (if (mx t163 (wrap64 (-t163))) > (wrap64 (Int.tdiv (wrap64 (t165 - 1)) t166)) then (some (0, false)) else ((dec_ten.f k (wrap64 (a2 - t164))).bind fun t167 => (some (wrap64 (t163 * t167), true)))))))))) = some (r1, r2) := H
  have A4 := Aside0.mk A40
  clear A40
  by_cases c5 : t163 = 0
  · rw [if_pos c5] at H
    have c5b0 : (t163 == 0) = true := beq_iff_eq.mpr c5
    have c5b1 : (t163 != 0) = false := bne_eq_false_iff_eq.mpr c5
    clear c5
    simp only [Option.some.injEq, Prod.mk.injEq] at H
    obtain ⟨rfl, rfl⟩ := H
    go_enter Try.func100, Try.ntmps100
    go_wp2_with (first | ((with_reducible refine gate_callee (f := 86) rfl ?_); refine goesL_ (some 11) rfl rfl Try.func86 (by kernel_rfl) rfl #[.int .i64 a0, .int .i64 a1] rfl (by (try simp only [List.map_toArray, List.map_cons, List.map_nil]); first | done | rfl | (simp only [List.length_drop, List.length_take]; rfl)) ?_; (with_reducible refine (dec_Norm.calls a0 a1 t163 t164 _ A4.out).mono ?_); rintro e w' ⟨rfl, ⟨nd, rfl⟩⟩; refine ⟨_, rfl, ?_⟩))
    go_ret2
    exact ⟨by first | rfl | (simp [errW_none, errW_some] <;> rfl) | (simp [*, errW_none, errW_some] <;> rfl), by repeat (first | (with_reducible first | exact HB.out | apply below_alloc | apply pw_below_drewN | apply below_drew1) | exact HB.out)⟩
  · rw [if_neg c5] at H
    have c5b0 : (t163 == 0) = false := beq_eq_false_iff_ne.mpr c5
    have c5b1 : (t163 != 0) = true := bne_iff_ne.mpr c5
    by_cases c6 : a2 < t164
    · rw [if_pos c6] at H
      have c6b0 : decide (a2 < t164) = true := decide_eq_true c6
      clear c6
      simp only [Option.some.injEq, Prod.mk.injEq] at H
      obtain ⟨rfl, rfl⟩ := H
      go_enter Try.func100, Try.ntmps100
      go_wp2_with (first | ((with_reducible refine gate_callee (f := 86) rfl ?_); refine goesL_ (some 11) rfl rfl Try.func86 (by kernel_rfl) rfl #[.int .i64 a0, .int .i64 a1] rfl (by (try simp only [List.map_toArray, List.map_cons, List.map_nil]); first | done | rfl | (simp only [List.length_drop, List.length_take]; rfl)) ?_; (with_reducible refine (dec_Norm.calls a0 a1 t163 t164 _ A4.out).mono ?_); rintro e w' ⟨rfl, ⟨nd, rfl⟩⟩; refine ⟨_, rfl, ?_⟩))
      go_ret2
      exact ⟨by first | rfl | (simp [errW_none, errW_some] <;> rfl) | (simp [*, errW_none, errW_some] <;> rfl), by repeat (first | (with_reducible first | exact HB.out | apply below_alloc | apply pw_below_drewN | apply below_drew1) | exact HB.out)⟩
    · rw [if_neg c6] at H
      have c6b0 : decide (a2 < t164) = false := decide_eq_false c6
      clear c6
      by_cases c7 : (wrap64 (a2 - t164)) > 18
      · rw [if_pos c7] at H
        have c7b0 : decide (18 < (wrap64 (a2 - t164))) = true := decide_eq_true c7
        clear c7
        simp only [Option.some.injEq, Prod.mk.injEq] at H
        obtain ⟨rfl, rfl⟩ := H
        go_enter Try.func100, Try.ntmps100
        go_wp2_with (first | ((with_reducible refine gate_callee (f := 86) rfl ?_); refine goesL_ (some 11) rfl rfl Try.func86 (by kernel_rfl) rfl #[.int .i64 a0, .int .i64 a1] rfl (by (try simp only [List.map_toArray, List.map_cons, List.map_nil]); first | done | rfl | (simp only [List.length_drop, List.length_take]; rfl)) ?_; (with_reducible refine (dec_Norm.calls a0 a1 t163 t164 _ A4.out).mono ?_); rintro e w' ⟨rfl, ⟨nd, rfl⟩⟩; refine ⟨_, rfl, ?_⟩))
        go_ret2
        exact ⟨by first | rfl | (simp [errW_none, errW_some] <;> rfl) | (simp [*, errW_none, errW_some] <;> rfl), by repeat (first | (with_reducible first | exact HB.out | apply below_alloc | apply pw_below_drewN | apply below_drew1) | exact HB.out)⟩
      · rw [if_neg c7] at H
        have c7b0 : decide (18 < (wrap64 (a2 - t164))) = false := decide_eq_false c7
        clear c7
        obtain ⟨ji8, hji8⟩ : ∃ j_ : Int, (mx t163 (wrap64 (-t163))) = j_ := ⟨_, rfl⟩
        replace H : ((dec_bound.f k).bind fun t165 => ((dec_ten.f k (wrap64 (a2 - t164))).bind fun t166 => (if t166 = 0 then (none) else (if (ji8) > (wrap64 (Int.tdiv (wrap64 (t165 - 1)) t166)) then (some (0, false)) else ((dec_ten.f k (wrap64 (a2 - t164))).bind fun t167 => (some (wrap64 (t163 * t167), true))))))) = some (r1, r2) := by first | (rw [hji8] at H; exact H) | (simp only [hji8] at H ⊢; exact H)
        (try rw [hji8] at A4)
        have hji8_ : (if t163 < (wrap64 (-t163)) then (wrap64 (-t163)) else t163) = ji8 := hji8
        replace H := Option.bind_eq_some_iff.mp H
        obtain ⟨t165, A90, H⟩ := H
        replace H : ((dec_ten.f k (wrap64 (a2 - t164))).bind fun t166 => (if t166 = 0 then (none) else (if (ji8) > (wrap64 (Int.tdiv (wrap64 (t165 - 1)) t166)) then (some (0, false)) else ((dec_ten.f k (wrap64 (a2 - t164))).bind fun t167 => (some (wrap64 (t163 * t167), true)))))) = some (r1, r2) := H
        have A9 := Aside0.mk A90
        clear A90
        replace H := Option.bind_eq_some_iff.mp H
        obtain ⟨t166, A100, H⟩ := H
        replace H : (if t166 = 0 then (none) else (if (ji8) > (wrap64 (Int.tdiv (wrap64 (t165 - 1)) t166)) then (some (0, false)) else ((dec_ten.f k (wrap64 (a2 - t164))).bind fun t167 => (some (wrap64 (t163 * t167), true))))) = some (r1, r2) := H
        have A10 := Aside0.mk A100
        clear A100
        by_cases c11 : t166 = 0
        · rw [if_pos c11] at H
          exact absurd H (by simp)
        · rw [if_neg c11] at H
          have c11b0 : (t166 == 0) = false := beq_eq_false_iff_ne.mpr c11
          have c11b1 : (t166 != 0) = true := bne_iff_ne.mpr c11
          by_cases c12 : (ji8) > (wrap64 (Int.tdiv (wrap64 (t165 - 1)) t166))
          · rw [if_pos c12] at H
            have c12b0 : decide ((wrap64 (Int.tdiv (wrap64 (t165 - 1)) t166)) < (ji8)) = true := decide_eq_true c12
            clear c12
            simp only [Option.some.injEq, Prod.mk.injEq] at H
            obtain ⟨rfl, rfl⟩ := H
            go_enter Try.func100, Try.ntmps100
            go_wp2_with (first | ((with_reducible refine gate_callee (f := 86) rfl ?_); refine goesL_ (some 11) rfl rfl Try.func86 (by kernel_rfl) rfl #[.int .i64 a0, .int .i64 a1] rfl (by (try simp only [List.map_toArray, List.map_cons, List.map_nil]); first | done | rfl | (simp only [List.length_drop, List.length_take]; rfl)) ?_; (with_reducible refine (dec_Norm.calls a0 a1 t163 t164 _ A4.out).mono ?_); rintro e w' ⟨rfl, ⟨nd, rfl⟩⟩; refine ⟨_, rfl, ?_⟩) | (go_at_call 115; (with_reducible refine (dec_bound.calls k  t165 _ A9.out).mono ?_); rintro e w' ⟨rfl, ⟨nd, rfl⟩⟩) | (go_at_call 114; (with_reducible refine (dec_ten.calls k (wrap64 (a2 - t164)) t166 _ A10.out).mono ?_); rintro e w' ⟨rfl, ⟨nd, rfl⟩⟩))
            go_ret2
            exact ⟨by first | rfl | (simp [errW_none, errW_some] <;> rfl) | (simp only [← hji8]; first | rfl | (simp [errW_none, errW_some] <;> rfl)) | (simp [*, errW_none, errW_some] <;> rfl), by repeat (first | (with_reducible first | exact HB.out | apply below_alloc | apply pw_below_drewN | apply below_drew1) | exact HB.out)⟩
          · rw [if_neg c12] at H
            have c12b0 : decide ((wrap64 (Int.tdiv (wrap64 (t165 - 1)) t166)) < (ji8)) = false := decide_eq_false c12
            clear c12
            replace H := Option.bind_eq_some_iff.mp H
            obtain ⟨t167, A130, H⟩ := H
            replace H : (some (wrap64 (t163 * t167), true)) = some (r1, r2) := H
            have A13 := Aside0.mk A130
            clear A130
            simp only [Option.some.injEq, Prod.mk.injEq] at H
            obtain ⟨rfl, rfl⟩ := H
            go_enter Try.func100, Try.ntmps100
            go_wp2_with (first | ((with_reducible refine gate_callee (f := 86) rfl ?_); refine goesL_ (some 11) rfl rfl Try.func86 (by kernel_rfl) rfl #[.int .i64 a0, .int .i64 a1] rfl (by (try simp only [List.map_toArray, List.map_cons, List.map_nil]); first | done | rfl | (simp only [List.length_drop, List.length_take]; rfl)) ?_; (with_reducible refine (dec_Norm.calls a0 a1 t163 t164 _ A4.out).mono ?_); rintro e w' ⟨rfl, ⟨nd, rfl⟩⟩; refine ⟨_, rfl, ?_⟩) | (go_at_call 115; (with_reducible refine (dec_bound.calls k  t165 _ A9.out).mono ?_); rintro e w' ⟨rfl, ⟨nd, rfl⟩⟩) | (go_at_call 114; (with_reducible refine (dec_ten.calls k (wrap64 (a2 - t164)) t166 _ A10.out).mono ?_); rintro e w' ⟨rfl, ⟨nd, rfl⟩⟩) | ((with_reducible refine gate_callee (f := 114) rfl ?_); refine goesL_ (some 43) rfl rfl Try.func114 (by kernel_rfl) rfl #[.int .i64 (wrap64 (a2 - t164))] rfl (by (try simp only [List.map_toArray, List.map_cons, List.map_nil]); first | done | rfl | (simp only [List.length_drop, List.length_take]; rfl)) ?_; (with_reducible refine (dec_ten.calls k (wrap64 (a2 - t164)) t167 _ A13.out).mono ?_); rintro e w' ⟨rfl, ⟨nd, rfl⟩⟩; refine ⟨_, rfl, ?_⟩))
            go_ret2
            exact ⟨by first | rfl | (simp [errW_none, errW_some] <;> rfl) | (simp only [← hji8]; first | rfl | (simp [errW_none, errW_some] <;> rfl)) | (simp [*, errW_none, errW_some] <;> rfl), by repeat (first | (with_reducible first | exact HB.out | apply below_alloc | apply pw_below_drewN | apply below_drew1) | exact HB.out)⟩
/-! ### act_must: function 39 -/
def act_must.f (a0 : Bool) (a1 : Int) : Option Unit := if a0 = true then some () else none
set_option maxRecDepth 100000 in
theorem act_must.calls (a0 : Bool) (a1 : Int) (w : World) (h : act_must.f a0 a1 = some ()) :
    Calls Try.prog 39 #[.bool a0, .int .i64 a1] w fun e w' => e = .returned (.tuple #[]) ∧ Drawn0 w w' := by
  cases a0 with
  | false => cases h
  | true =>
    clear h
    go_enter Try.func39, Try.ntmps39
    go_wp2
    go_end0
    exact ⟨rfl, Drawn0.refl _⟩
theorem must_no (a1 : Int) (w : World) :
    Calls Try.prog 39 #[.bool false, .int .i64 a1] w fun e w' => e = .panicked [{ v := .iface 75 (.agg #[.int .i64 a1]), recovered := false }] ∧ w = w' := by
  go_enter Try.func39, Try.ntmps39
  go_wp2
  exact ⟨rfl, rfl, rfl⟩
/-! ### slices_Clone_int_int: function 58 -/
def slices_Clone_int_int.f (l0 : List Int) : Option (List Int) := if l0.length ≤ 1000000 then some l0 else none
set_option maxRecDepth 100000 in
theorem clone_nil (c0 : Nat) (w : World) : Calls Try.prog 58 #[.slice none 0 c0] w fun e w' => e = .returned (.slice none 0 0) ∧ w = w' := by
  have he : ∀ w : World, (binOp .eql 22 (.slice none 0 c0) (.slice none 0 0)).run Try.prog w = .ok (.bool true) w := fun w => Lib.run_eql_slice_nil w 22 3 none 0 c0 0 0 Try.underlying22
  go_enter Try.func58, Try.ntmps58
  go_wp2
  go_ret
  exact ⟨rfl, rfl⟩
theorem R_empty {α : Type} (d : Kd α) (e : Nat) (w : World) (ok : Nat → Prop) (hok : ok w.heap.size) : d.R e (w.alloc (.cells #[] e)) w.heap.size ok (.slice (some ⟨w.heap.size, 0, none⟩) 0 0) [] := by
  refine ⟨fun k hk => ?_, [], ⟨by simp, .inr ⟨w.heap.size, 0, #[], rfl, Nat.le_refl _, heap_alloc_new w _, Nat.le_refl _, by unfold maxLen; omega, by simp, by simp⟩⟩, Reps.none _ _⟩
  simp [Value.ownBlock] at hk
  subst hk; exact hok
set_option maxRecDepth 100000 in
theorem clone_some (ad : Addr) (c0 : Nat) (l0 : List Int) (w : World) (hr : Kd.C (Kd.int .i64) w (some ad) l0.length l0) (hc0 : l0.length ≤ c0) (hl : l0.length ≤ 1000000) :
    Calls Try.prog 58 #[.slice (some ad) l0.length c0] w fun e w' => ∃ v1_ : Value, e = .returned v1_ ∧ Kd.R (Kd.int .i64) 3 w' w.heap.size (fun _ => True) v1_ l0 ∧ Below w.heap.size w w' := by
  have he : ∀ w : World, (binOp .eql 22 (.slice (some ad) l0.length c0) (.slice none 0 0)).run Try.prog w = .ok (.bool false) w := fun w => Lib.run_eql_slice_nil w 22 3 (some ad) l0.length c0 0 0 Try.underlying22
  go_enter Try.func58, Try.ntmps58
  go_wp2_with (at_builtin; refine Kd.R_append_row (Value.int .i64) (0 : Int) (h1 := fun _ => rfl) (w0 := w) w.heap.size rfl (.tmp 5) (.tmp 6) 22 3 (.int .i64 0) 8 rfl Try.underlying22 info3 rfl (by decide) _ [] l0 (some ad) l0.length c0 (fun _ => True) rfl rfl (fun _ _ => trivial) (R_empty _ 3 w _ trivial) (Kd.C_below hr ((Below.refl _ _).alloc (Nat.le_refl _) _)) ((Below.refl _ _).alloc (Nat.le_refl _) _) (by simp) (by simp; omega) ?_; intro v1 w1 hR hB _ _)
  go_ret
  exact ⟨v1, rfl, hR, hB⟩
theorem slices_Clone_int_int.calls (A0 : Option Addr) (c0 : Nat) (l0 : List Int) (r : List Int) (w : World) (hr0 : Kd.C (Kd.int .i64) w A0 l0.length l0) (hc0 : l0.length ≤ c0) (h : slices_Clone_int_int.f l0 = some r) :
    Calls Try.prog 58 #[.slice A0 l0.length c0] w fun e w' => ∃ v1_ : Value, e = .returned v1_ ∧ Kd.R (Kd.int .i64) 3 w' w.heap.size (fun _ => True) v1_ r ∧ Below w.heap.size w w' := by
  unfold slices_Clone_int_int.f at h
  split at h
  · rename_i hl
    obtain rfl := Option.some.inj h
    cases A0 with
    | some ad => exact clone_some ad c0 l0 w hr0 hc0 hl
    | none =>
      have h0 : l0 = [] := by
        cases l0 with
        | nil => rfl
        | cons x xs =>
          obtain ⟨ad, e, _⟩ := hr0.2.2 (by simp)
          cases e
      subst h0
      exact (clone_nil c0 w).mono fun e w' ⟨he, hw⟩ => ⟨_, he, Kd.R_nil _ _ _ _ _, hw ▸ Below.refl _ _⟩
  · cases h
/-! ### interlocutorlaw8_within: function 18 -/
def interlocutorlaw8_within.f (a0 : Int) (a1 : Int) : Option (Int) := if a1 = 0 then (none) else (if (Int.tmod a0 a1) < 0 then (some (wrap64 ((Int.tmod a0 a1) + a1))) else (some (Int.tmod a0 a1)))
set_option maxHeartbeats 8000000 in
set_option maxRecDepth 100000 in
theorem interlocutorlaw8_within.calls (a0 : Int) (a1 : Int) (r : Int) (w : World) (h : interlocutorlaw8_within.f a0 a1 = some r) :
    Calls Try.prog 18 #[.int .i64 a0, .int .i64 a1] w fun e w' => e = .returned (.int .i64 r) ∧ Drawn0 w w' := by
  have H : (if a1 = 0 then (none) else (if (Int.tmod a0 a1) < 0 then (some (wrap64 ((Int.tmod a0 a1) + a1))) else (some (Int.tmod a0 a1)))) = some r := h
  clear h
  by_cases c3 : a1 = 0
  · rw [if_pos c3] at H
    exact absurd H (by simp)
  · rw [if_neg c3] at H
    have c3b0 : (a1 == 0) = false := beq_eq_false_iff_ne.mpr c3
    have c3b1 : (a1 != 0) = true := bne_iff_ne.mpr c3
    by_cases c4 : (Int.tmod a0 a1) < 0
    · rw [if_pos c4] at H
      have c4b0 : decide ((Int.tmod a0 a1) < 0) = true := decide_eq_true c4
      clear c4
      obtain rfl := Option.some.inj H
      go_enter Try.func18, Try.ntmps18
      go_wp2
      go_ret
      exact ⟨by first | rfl | (simp; done) | (simp [*]; done), by repeat (first | exact Drawn0.refl _ | apply Drawn0.step)⟩
    · rw [if_neg c4] at H
      have c4b0 : decide ((Int.tmod a0 a1) < 0) = false := decide_eq_false c4
      clear c4
      obtain rfl := Option.some.inj H
      go_enter Try.func18, Try.ntmps18
      go_wp2
      go_ret
      exact ⟨by first | rfl | (simp; done) | (simp [*]; done), by repeat (first | exact Drawn0.refl _ | apply Drawn0.step)⟩
/-! ### interlocutorref1_floor: function 53 -/
def interlocutorref1_floor.f (a0 : Int) (a1 : Int) : Option (Int) := if a1 = 0 then (none) else (if (Int.tmod a0 a1) < 0 then (some (wrap64 ((wrap64 (Int.tdiv a0 a1)) - 1))) else (some (wrap64 (Int.tdiv a0 a1))))
set_option maxHeartbeats 8000000 in
set_option maxRecDepth 100000 in
theorem interlocutorref1_floor.calls (a0 : Int) (a1 : Int) (r : Int) (w : World) (h : interlocutorref1_floor.f a0 a1 = some r) :
    Calls Try.prog 53 #[.int .i64 a0, .int .i64 a1] w fun e w' => e = .returned (.int .i64 r) ∧ Drawn0 w w' := by
  have H : (if a1 = 0 then (none) else (if (Int.tmod a0 a1) < 0 then (some (wrap64 ((wrap64 (Int.tdiv a0 a1)) - 1))) else (some (wrap64 (Int.tdiv a0 a1))))) = some r := h
  clear h
  by_cases c3 : a1 = 0
  · rw [if_pos c3] at H
    exact absurd H (by simp)
  · rw [if_neg c3] at H
    have c3b0 : (a1 == 0) = false := beq_eq_false_iff_ne.mpr c3
    have c3b1 : (a1 != 0) = true := bne_iff_ne.mpr c3
    by_cases c4 : (Int.tmod a0 a1) < 0
    · rw [if_pos c4] at H
      have c4b0 : decide ((Int.tmod a0 a1) < 0) = true := decide_eq_true c4
      clear c4
      obtain rfl := Option.some.inj H
      go_enter Try.func53, Try.ntmps53
      go_wp2
      go_ret
      exact ⟨by first | rfl | (simp; done) | (simp [*]; done), by repeat (first | exact Drawn0.refl _ | apply Drawn0.step)⟩
    · rw [if_neg c4] at H
      have c4b0 : decide ((Int.tmod a0 a1) < 0) = false := decide_eq_false c4
      clear c4
      obtain rfl := Option.some.inj H
      go_enter Try.func53, Try.ntmps53
      go_wp2
      go_ret
      exact ⟨by first | rfl | (simp; done) | (simp [*]; done), by repeat (first | exact Drawn0.refl _ | apply Drawn0.step)⟩
/-! ### interlocutorref1_Days: function 31 -/
def interlocutorref1_Days.f (a0 : Int) (a1 : Int) (a2 : Int) : Option (Int) := if a1 ≤ 2 then ((interlocutorref1_floor.f (wrap64 (a0 - 1)) 400).bind fun t255 => (some (wrap64 ((wrap64 ((wrap64 ((wrap64 ((wrap64 ((wrap64 (146097 * t255)) + (wrap64 (365 * (wrap64 ((wrap64 (a0 - 1)) - (wrap64 (400 * t255)))))))) + (wrap64 (Int.tdiv (wrap64 ((wrap64 (a0 - 1)) - (wrap64 (400 * t255)))) 4)))) - (wrap64 (Int.tdiv (wrap64 ((wrap64 (a0 - 1)) - (wrap64 (400 * t255)))) 100)))) + (wrap64 ((wrap64 ((wrap64 (Int.tdiv (wrap64 ((wrap64 (153 * (Int.tmod (wrap64 (a1 + 9)) 12))) + 2)) 5)) + a2)) - 1)))) - 719468)))) else ((interlocutorref1_floor.f a0 400).bind fun t256 => (some (wrap64 ((wrap64 ((wrap64 ((wrap64 ((wrap64 ((wrap64 (146097 * t256)) + (wrap64 (365 * (wrap64 (a0 - (wrap64 (400 * t256)))))))) + (wrap64 (Int.tdiv (wrap64 (a0 - (wrap64 (400 * t256)))) 4)))) - (wrap64 (Int.tdiv (wrap64 (a0 - (wrap64 (400 * t256)))) 100)))) + (wrap64 ((wrap64 ((wrap64 (Int.tdiv (wrap64 ((wrap64 (153 * (Int.tmod (wrap64 (a1 + 9)) 12))) + 2)) 5)) + a2)) - 1)))) - 719468))))
set_option maxHeartbeats 8000000 in
set_option maxRecDepth 100000 in
theorem interlocutorref1_Days.calls (a0 : Int) (a1 : Int) (a2 : Int) (r : Int) (w : World) (h : interlocutorref1_Days.f a0 a1 a2 = some r) :
    Calls Try.prog 31 #[.int .i64 a0, .int .i64 a1, .int .i64 a2] w fun e w' => e = .returned (.int .i64 r) ∧ Drawn0 w w' := by
  have H : (if a1 ≤ 2 then ((interlocutorref1_floor.f (wrap64 (a0 - 1)) 400).bind fun t255 => (some (wrap64 ((wrap64 ((wrap64 ((wrap64 ((wrap64 ((wrap64 (146097 * t255)) + (wrap64 (365 * (wrap64 ((wrap64 (a0 - 1)) - (wrap64 (400 * t255)))))))) + (wrap64 (Int.tdiv (wrap64 ((wrap64 (a0 - 1)) - (wrap64 (400 * t255)))) 4)))) - (wrap64 (Int.tdiv (wrap64 ((wrap64 (a0 - 1)) - (wrap64 (400 * t255)))) 100)))) + (wrap64 ((wrap64 ((wrap64 (Int.tdiv (wrap64 ((wrap64 (153 * (Int.tmod (wrap64 (a1 + 9)) 12))) + 2)) 5)) + a2)) - 1)))) - 719468)))) else ((interlocutorref1_floor.f a0 400).bind fun t256 => (some (wrap64 ((wrap64 ((wrap64 ((wrap64 ((wrap64 ((wrap64 (146097 * t256)) + (wrap64 (365 * (wrap64 (a0 - (wrap64 (400 * t256)))))))) + (wrap64 (Int.tdiv (wrap64 (a0 - (wrap64 (400 * t256)))) 4)))) - (wrap64 (Int.tdiv (wrap64 (a0 - (wrap64 (400 * t256)))) 100)))) + (wrap64 ((wrap64 ((wrap64 (Int.tdiv (wrap64 ((wrap64 (153 * (Int.tmod (wrap64 (a1 + 9)) 12))) + 2)) 5)) + a2)) - 1)))) - 719468))))) = some r := h
  clear h
  by_cases c4 : a1 ≤ 2
  · rw [if_pos c4] at H
    have c4b0 : decide (a1 ≤ 2) = true := decide_eq_true c4
    clear c4
    replace H := Option.bind_eq_some_iff.mp H
    obtain ⟨t255, A50, H⟩ := H
    replace H : (some (wrap64 ((wrap64 ((wrap64 ((wrap64 ((wrap64 ((wrap64 (146097 * t255)) + (wrap64 (365 * (wrap64 ((wrap64 (a0 - 1)) - (wrap64 (400 * t255)))))))) + (wrap64 (Int.tdiv (wrap64 ((wrap64 (a0 - 1)) - (wrap64 (400 * t255)))) 4)))) - (wrap64 (Int.tdiv (wrap64 ((wrap64 (a0 - 1)) - (wrap64 (400 * t255)))) 100)))) + (wrap64 ((wrap64 ((wrap64 (Int.tdiv (wrap64 ((wrap64 (153 * (Int.tmod (wrap64 (a1 + 9)) 12))) + 2)) 5)) + a2)) - 1)))) - 719468))) = some r := H
    have A5 := Aside0.mk A50
    clear A50
    obtain rfl := Option.some.inj H
    go_enter Try.func31, Try.ntmps31
    go_wp2_with (first | ((with_reducible refine gate_callee (f := 53) rfl ?_); refine goesL_ (some 16) rfl rfl Try.func53 (by kernel_rfl) rfl #[.int .i64 (wrap64 (a0 - 1)), .int .i64 400] rfl (by (try simp only [List.map_toArray, List.map_cons, List.map_nil]); first | done | rfl | (simp only [List.length_drop, List.length_take]; rfl)) ?_; (with_reducible refine (interlocutorref1_floor.calls (wrap64 (a0 - 1)) 400 t255 _ A5.out).mono ?_); rintro e w' ⟨rfl, ⟨nd, rfl⟩⟩; refine ⟨_, rfl, ?_⟩))
    go_ret
    exact ⟨by first | rfl | (simp; done) | (simp [*]; done), by repeat (first | exact Drawn0.refl _ | apply Drawn0.step)⟩
  · rw [if_neg c4] at H
    have c4b0 : decide (a1 ≤ 2) = false := decide_eq_false c4
    clear c4
    replace H := Option.bind_eq_some_iff.mp H
    obtain ⟨t256, A60, H⟩ := H
    replace H : (some (wrap64 ((wrap64 ((wrap64 ((wrap64 ((wrap64 ((wrap64 (146097 * t256)) + (wrap64 (365 * (wrap64 (a0 - (wrap64 (400 * t256)))))))) + (wrap64 (Int.tdiv (wrap64 (a0 - (wrap64 (400 * t256)))) 4)))) - (wrap64 (Int.tdiv (wrap64 (a0 - (wrap64 (400 * t256)))) 100)))) + (wrap64 ((wrap64 ((wrap64 (Int.tdiv (wrap64 ((wrap64 (153 * (Int.tmod (wrap64 (a1 + 9)) 12))) + 2)) 5)) + a2)) - 1)))) - 719468))) = some r := H
    have A6 := Aside0.mk A60
    clear A60
    obtain rfl := Option.some.inj H
    go_enter Try.func31, Try.ntmps31
    go_wp2_with (first | ((with_reducible refine gate_callee (f := 53) rfl ?_); refine goesL_ (some 16) rfl rfl Try.func53 (by kernel_rfl) rfl #[.int .i64 a0, .int .i64 400] rfl (by (try simp only [List.map_toArray, List.map_cons, List.map_nil]); first | done | rfl | (simp only [List.length_drop, List.length_take]; rfl)) ?_; (with_reducible refine (interlocutorref1_floor.calls a0 400 t256 _ A6.out).mono ?_); rintro e w' ⟨rfl, ⟨nd, rfl⟩⟩; refine ⟨_, rfl, ?_⟩))
    go_ret
    exact ⟨by first | rfl | (simp; done) | (simp [*]; done), by repeat (first | exact Drawn0.refl _ | apply Drawn0.step)⟩
/-! ### interlocutorref1_Leap: function 90 -/
def interlocutorref1_Leap.f (a0 : Int) : Option (Bool) := if (Int.tmod a0 4) = 0 then (if (Int.tmod a0 100) = 0 then (some ((Int.tmod a0 400) == 0)) else (some true)) else (some false)
set_option maxHeartbeats 8000000 in
set_option maxRecDepth 100000 in
theorem interlocutorref1_Leap.calls (a0 : Int) (r : Bool) (w : World) (h : interlocutorref1_Leap.f a0 = some r) :
    Calls Try.prog 90 #[.int .i64 a0] w fun e w' => e = .returned (.bool r) ∧ Drawn0 w w' := by
  have H : (if (Int.tmod a0 4) = 0 then (if (Int.tmod a0 100) = 0 then (some ((Int.tmod a0 400) == 0)) else (some true)) else (some false)) = some r := h
  clear h
  by_cases c2 : (Int.tmod a0 4) = 0
  · rw [if_pos c2] at H
    have c2b0 : ((Int.tmod a0 4) == 0) = true := beq_iff_eq.mpr c2
    have c2b1 : ((Int.tmod a0 4) != 0) = false := bne_eq_false_iff_eq.mpr c2
    clear c2
    by_cases c3 : (Int.tmod a0 100) = 0
    · rw [if_pos c3] at H
      have c3b0 : ((Int.tmod a0 100) == 0) = true := beq_iff_eq.mpr c3
      have c3b1 : ((Int.tmod a0 100) != 0) = false := bne_eq_false_iff_eq.mpr c3
      clear c3
      obtain rfl := Option.some.inj H
      go_enter Try.func90, Try.ntmps90
      go_wp2
      go_ret
      exact ⟨by first | rfl | (simp; done) | (simp [*]; done), by repeat (first | exact Drawn0.refl _ | apply Drawn0.step)⟩
    · rw [if_neg c3] at H
      have c3b0 : ((Int.tmod a0 100) == 0) = false := beq_eq_false_iff_ne.mpr c3
      have c3b1 : ((Int.tmod a0 100) != 0) = true := bne_iff_ne.mpr c3
      obtain rfl := Option.some.inj H
      go_enter Try.func90, Try.ntmps90
      go_wp2
      go_ret
      exact ⟨by first | rfl | (simp; done) | (simp [*]; done), by repeat (first | exact Drawn0.refl _ | apply Drawn0.step)⟩
  · rw [if_neg c2] at H
    have c2b0 : ((Int.tmod a0 4) == 0) = false := beq_eq_false_iff_ne.mpr c2
    have c2b1 : ((Int.tmod a0 4) != 0) = true := bne_iff_ne.mpr c2
    obtain rfl := Option.some.inj H
    go_enter Try.func90, Try.ntmps90
    go_wp2
    go_ret
    exact ⟨by first | rfl | (simp; done) | (simp [*]; done), by repeat (first | exact Drawn0.refl _ | apply Drawn0.step)⟩
/-! ### interlocutorref1_Length: function 54 -/
def interlocutorref1_Length.f (a0 : Int) (a1 : Int) : Option (Int) := if a1 = 2 then ((interlocutorref1_Leap.f a0).bind fun t176 => (if t176 = true then (some 29) else (some 28))) else (if a1 = 4 then (some 30) else (if a1 = 6 then (some 30) else (if a1 = 9 then (some 30) else (if a1 = 11 then (some 30) else (some 31)))))
set_option maxHeartbeats 8000000 in
set_option maxRecDepth 100000 in
theorem interlocutorref1_Length.calls (a0 : Int) (a1 : Int) (r : Int) (w : World) (h : interlocutorref1_Length.f a0 a1 = some r) :
    Calls Try.prog 54 #[.int .i64 a0, .int .i64 a1] w fun e w' => e = .returned (.int .i64 r) ∧ Drawn0 w w' := by
  have H : (if a1 = 2 then ((interlocutorref1_Leap.f a0).bind fun t176 => (if t176 = true then (some 29) else (some 28))) else (if a1 = 4 then (some 30) else (if a1 = 6 then (some 30) else (if a1 = 9 then (some 30) else (if a1 = 11 then (some 30) else (some 31)))))) = some r := h
  clear h
  by_cases c3 : a1 = 2
  · rw [if_pos c3] at H
    have c3b0 : (a1 == 2) = true := beq_iff_eq.mpr c3
    have c3b1 : (a1 != 2) = false := bne_eq_false_iff_eq.mpr c3
    clear c3
    replace H := Option.bind_eq_some_iff.mp H
    obtain ⟨t176, A40, H⟩ := H
    replace H : (if t176 = true then (some 29) else (some 28)) = some r := H
    have A4 := Aside0.mk A40
    clear A40
    by_cases c5 : t176 = true
    · subst c5
      have H1 : (some 29) = some r := by rw [if_pos rfl] at H; exact H
      clear H
      have H := H1
      clear H1
      obtain rfl := Option.some.inj H
      go_enter Try.func54, Try.ntmps54
      go_wp2_with (first | ((with_reducible refine gate_callee (f := 90) rfl ?_); refine goesL_ (some 9) rfl rfl Try.func90 (by kernel_rfl) rfl #[.int .i64 a0] rfl (by (try simp only [List.map_toArray, List.map_cons, List.map_nil]); first | done | rfl | (simp only [List.length_drop, List.length_take]; rfl)) ?_; (with_reducible refine (interlocutorref1_Leap.calls a0 true _ A4.out).mono ?_); rintro e w' ⟨rfl, ⟨nd, rfl⟩⟩; refine ⟨_, rfl, ?_⟩))
      go_ret
      exact ⟨by first | rfl | (simp; done) | (simp [*]; done), by repeat (first | exact Drawn0.refl _ | apply Drawn0.step)⟩
    · replace c5 := Bool.eq_false_iff.mpr c5
      subst c5
      have H1 : (some 28) = some r := by rw [if_neg (show ¬ (false = true) by decide)] at H; exact H
      clear H
      have H := H1
      clear H1
      obtain rfl := Option.some.inj H
      go_enter Try.func54, Try.ntmps54
      go_wp2_with (first | ((with_reducible refine gate_callee (f := 90) rfl ?_); refine goesL_ (some 9) rfl rfl Try.func90 (by kernel_rfl) rfl #[.int .i64 a0] rfl (by (try simp only [List.map_toArray, List.map_cons, List.map_nil]); first | done | rfl | (simp only [List.length_drop, List.length_take]; rfl)) ?_; (with_reducible refine (interlocutorref1_Leap.calls a0 false _ A4.out).mono ?_); rintro e w' ⟨rfl, ⟨nd, rfl⟩⟩; refine ⟨_, rfl, ?_⟩))
      go_ret
      exact ⟨by first | rfl | (simp; done) | (simp [*]; done), by repeat (first | exact Drawn0.refl _ | apply Drawn0.step)⟩
  · rw [if_neg c3] at H
    have c3b0 : (a1 == 2) = false := beq_eq_false_iff_ne.mpr c3
    have c3b1 : (a1 != 2) = true := bne_iff_ne.mpr c3
    by_cases c6 : a1 = 4
    · rw [if_pos c6] at H
      have c6b0 : (a1 == 4) = true := beq_iff_eq.mpr c6
      have c6b1 : (a1 != 4) = false := bne_eq_false_iff_eq.mpr c6
      clear c6
      obtain rfl := Option.some.inj H
      go_enter Try.func54, Try.ntmps54
      go_wp2
      go_ret
      exact ⟨by first | rfl | (simp; done) | (simp [*]; done), by repeat (first | exact Drawn0.refl _ | apply Drawn0.step)⟩
    · rw [if_neg c6] at H
      have c6b0 : (a1 == 4) = false := beq_eq_false_iff_ne.mpr c6
      have c6b1 : (a1 != 4) = true := bne_iff_ne.mpr c6
      by_cases c7 : a1 = 6
      · rw [if_pos c7] at H
        have c7b0 : (a1 == 6) = true := beq_iff_eq.mpr c7
        have c7b1 : (a1 != 6) = false := bne_eq_false_iff_eq.mpr c7
        clear c7
        obtain rfl := Option.some.inj H
        go_enter Try.func54, Try.ntmps54
        go_wp2
        go_ret
        exact ⟨by first | rfl | (simp; done) | (simp [*]; done), by repeat (first | exact Drawn0.refl _ | apply Drawn0.step)⟩
      · rw [if_neg c7] at H
        have c7b0 : (a1 == 6) = false := beq_eq_false_iff_ne.mpr c7
        have c7b1 : (a1 != 6) = true := bne_iff_ne.mpr c7
        by_cases c8 : a1 = 9
        · rw [if_pos c8] at H
          have c8b0 : (a1 == 9) = true := beq_iff_eq.mpr c8
          have c8b1 : (a1 != 9) = false := bne_eq_false_iff_eq.mpr c8
          clear c8
          obtain rfl := Option.some.inj H
          go_enter Try.func54, Try.ntmps54
          go_wp2
          go_ret
          exact ⟨by first | rfl | (simp; done) | (simp [*]; done), by repeat (first | exact Drawn0.refl _ | apply Drawn0.step)⟩
        · rw [if_neg c8] at H
          have c8b0 : (a1 == 9) = false := beq_eq_false_iff_ne.mpr c8
          have c8b1 : (a1 != 9) = true := bne_iff_ne.mpr c8
          by_cases c9 : a1 = 11
          · rw [if_pos c9] at H
            have c9b0 : (a1 == 11) = true := beq_iff_eq.mpr c9
            have c9b1 : (a1 != 11) = false := bne_eq_false_iff_eq.mpr c9
            clear c9
            obtain rfl := Option.some.inj H
            go_enter Try.func54, Try.ntmps54
            go_wp2
            go_ret
            exact ⟨by first | rfl | (simp; done) | (simp [*]; done), by repeat (first | exact Drawn0.refl _ | apply Drawn0.step)⟩
          · rw [if_neg c9] at H
            have c9b0 : (a1 == 11) = false := beq_eq_false_iff_ne.mpr c9
            have c9b1 : (a1 != 11) = true := bne_iff_ne.mpr c9
            obtain rfl := Option.some.inj H
            go_enter Try.func54, Try.ntmps54
            go_wp2
            go_ret
            exact ⟨by first | rfl | (simp; done) | (simp [*]; done), by repeat (first | exact Drawn0.refl _ | apply Drawn0.step)⟩
/-! ### interlocutorlaw1_within: function 57 -/
def interlocutorlaw1_within.f (a0 : Int) (a1 : Int) : Option (Int) := if a1 = 0 then (none) else (if (Int.tmod a0 a1) < 0 then (some (wrap64 ((Int.tmod a0 a1) + a1))) else (some (Int.tmod a0 a1)))
set_option maxHeartbeats 8000000 in
set_option maxRecDepth 100000 in
theorem interlocutorlaw1_within.calls (a0 : Int) (a1 : Int) (r : Int) (w : World) (h : interlocutorlaw1_within.f a0 a1 = some r) :
    Calls Try.prog 57 #[.int .i64 a0, .int .i64 a1] w fun e w' => e = .returned (.int .i64 r) ∧ Drawn0 w w' := by
  have H : (if a1 = 0 then (none) else (if (Int.tmod a0 a1) < 0 then (some (wrap64 ((Int.tmod a0 a1) + a1))) else (some (Int.tmod a0 a1)))) = some r := h
  clear h
  by_cases c3 : a1 = 0
  · rw [if_pos c3] at H
    exact absurd H (by simp)
  · rw [if_neg c3] at H
    have c3b0 : (a1 == 0) = false := beq_eq_false_iff_ne.mpr c3
    have c3b1 : (a1 != 0) = true := bne_iff_ne.mpr c3
    by_cases c4 : (Int.tmod a0 a1) < 0
    · rw [if_pos c4] at H
      have c4b0 : decide ((Int.tmod a0 a1) < 0) = true := decide_eq_true c4
      clear c4
      obtain rfl := Option.some.inj H
      go_enter Try.func57, Try.ntmps57
      go_wp2
      go_ret
      exact ⟨by first | rfl | (simp; done) | (simp [*]; done), by repeat (first | exact Drawn0.refl _ | apply Drawn0.step)⟩
    · rw [if_neg c4] at H
      have c4b0 : decide ((Int.tmod a0 a1) < 0) = false := decide_eq_false c4
      clear c4
      obtain rfl := Option.some.inj H
      go_enter Try.func57, Try.ntmps57
      go_wp2
      go_ret
      exact ⟨by first | rfl | (simp; done) | (simp [*]; done), by repeat (first | exact Drawn0.refl _ | apply Drawn0.step)⟩
/-! ### interlocutorlaw1_Day: function 37 -/
def interlocutorlaw1_Day.f (a0 : Int) (a1 : Bool) : Option (Int × Int × Int) := (interlocutorlaw1_within.f (wrap64 (Int.tdiv a0 400)) 9999).bind fun t177 => (if a1 = true then ((interlocutorlaw1_within.f (wrap64 (Int.tdiv a0 400)) 30001).bind fun t178 => ((interlocutorlaw1_within.f a0 12).bind fun t179 => ((interlocutorref1_Length.f (wrap64 (t178 - 10000)) (wrap64 (1 + t179))).bind fun t180 => ((interlocutorlaw1_within.f (wrap64 (Int.tdiv a0 12)) t180).bind fun t181 => (some (wrap64 (t178 - 10000), wrap64 (1 + t179), wrap64 (1 + t181))))))) else ((interlocutorlaw1_within.f a0 12).bind fun t182 => ((interlocutorref1_Length.f (wrap64 (1 + t177)) (wrap64 (1 + t182))).bind fun t183 => ((interlocutorlaw1_within.f (wrap64 (Int.tdiv a0 12)) t183).bind fun t184 => (some (wrap64 (1 + t177), wrap64 (1 + t182), wrap64 (1 + t184)))))))
set_option maxHeartbeats 8000000 in
set_option maxRecDepth 100000 in
theorem interlocutorlaw1_Day.calls (a0 : Int) (a1 : Bool) (r1 : Int) (r2 : Int) (r3 : Int) (w : World) (h : interlocutorlaw1_Day.f a0 a1 = some (r1, r2, r3)) :
    Calls Try.prog 37 #[.int .i64 a0, .bool a1] w fun e w' => e = .returned (.tuple #[.int .i64 r1, .int .i64 r2, .int .i64 r3]) ∧ Drawn0 w w' := by
  have H : ((interlocutorlaw1_within.f (wrap64 (Int.tdiv a0 400)) 9999).bind fun t177 => (if a1 = true then ((interlocutorlaw1_within.f (wrap64 (Int.tdiv a0 400)) 30001).bind fun t178 => ((interlocutorlaw1_within.f a0 12).bind fun t179 => ((interlocutorref1_Length.f (wrap64 (t178 - 10000)) (wrap64 (1 + t179))).bind fun t180 => ((interlocutorlaw1_within.f (wrap64 (Int.tdiv a0 12)) t180).bind fun t181 => (some (wrap64 (t178 - 10000), wrap64 (1 + t179), wrap64 (1 + t181))))))) else ((interlocutorlaw1_within.f a0 12).bind fun t182 => ((interlocutorref1_Length.f (wrap64 (1 + t177)) (wrap64 (1 + t182))).bind fun t183 => ((interlocutorlaw1_within.f (wrap64 (Int.tdiv a0 12)) t183).bind fun t184 => (some (wrap64 (1 + t177), wrap64 (1 + t182), wrap64 (1 + t184)))))))) = some (r1, r2, r3) := h
  clear h
  replace H := Option.bind_eq_some_iff.mp H
  obtain ⟨t177, A30, H⟩ := H
  replace H : (if a1 = true then ((interlocutorlaw1_within.f (wrap64 (Int.tdiv a0 400)) 30001).bind fun t178 => ((interlocutorlaw1_within.f a0 12).bind fun t179 => ((interlocutorref1_Length.f (wrap64 (t178 - 10000)) (wrap64 (1 + t179))).bind fun t180 => ((interlocutorlaw1_within.f (wrap64 (Int.tdiv a0 12)) t180).bind fun t181 => (some (wrap64 (t178 - 10000), wrap64 (1 + t179), wrap64 (1 + t181))))))) else ((interlocutorlaw1_within.f a0 12).bind fun t182 => ((interlocutorref1_Length.f (wrap64 (1 + t177)) (wrap64 (1 + t182))).bind fun t183 => ((interlocutorlaw1_within.f (wrap64 (Int.tdiv a0 12)) t183).bind fun t184 => (some (wrap64 (1 + t177), wrap64 (1 + t182), wrap64 (1 + t184))))))) = some (r1, r2, r3) := H
  have A3 := Aside0.mk A30
  clear A30
  by_cases c4 : a1 = true
  · subst c4
    have H1 : ((interlocutorlaw1_within.f (wrap64 (Int.tdiv a0 400)) 30001).bind fun t178 => ((interlocutorlaw1_within.f a0 12).bind fun t179 => ((interlocutorref1_Length.f (wrap64 (t178 - 10000)) (wrap64 (1 + t179))).bind fun t180 => ((interlocutorlaw1_within.f (wrap64 (Int.tdiv a0 12)) t180).bind fun t181 => (some (wrap64 (t178 - 10000), wrap64 (1 + t179), wrap64 (1 + t181))))))) = some (r1, r2, r3) := by rw [if_pos rfl] at H; exact H
    clear H
    have H := H1
    clear H1
    replace H := Option.bind_eq_some_iff.mp H
    obtain ⟨t178, A50, H⟩ := H
    replace H : ((interlocutorlaw1_within.f a0 12).bind fun t179 => ((interlocutorref1_Length.f (wrap64 (t178 - 10000)) (wrap64 (1 + t179))).bind fun t180 => ((interlocutorlaw1_within.f (wrap64 (Int.tdiv a0 12)) t180).bind fun t181 => (some (wrap64 (t178 - 10000), wrap64 (1 + t179), wrap64 (1 + t181)))))) = some (r1, r2, r3) := H
    have A5 := Aside0.mk A50
    clear A50
    replace H := Option.bind_eq_some_iff.mp H
    obtain ⟨t179, A60, H⟩ := H
    replace H : ((interlocutorref1_Length.f (wrap64 (t178 - 10000)) (wrap64 (1 + t179))).bind fun t180 => ((interlocutorlaw1_within.f (wrap64 (Int.tdiv a0 12)) t180).bind fun t181 => (some (wrap64 (t178 - 10000), wrap64 (1 + t179), wrap64 (1 + t181))))) = some (r1, r2, r3) := H
    have A6 := Aside0.mk A60
    clear A60
    replace H := Option.bind_eq_some_iff.mp H
    obtain ⟨t180, A70, H⟩ := H
    replace H : ((interlocutorlaw1_within.f (wrap64 (Int.tdiv a0 12)) t180).bind fun t181 => (some (wrap64 (t178 - 10000), wrap64 (1 + t179), wrap64 (1 + t181)))) = some (r1, r2, r3) := H
    have A7 := Aside0.mk A70
    clear A70
    replace H := Option.bind_eq_some_iff.mp H
    obtain ⟨t181, A80, H⟩ := H
    replace H : (some (wrap64 (t178 - 10000), wrap64 (1 + t179), wrap64 (1 + t181))) = some (r1, r2, r3) := H
    have A8 := Aside0.mk A80
    clear A80
    simp only [Option.some.injEq, Prod.mk.injEq] at H
    obtain ⟨rfl, rfl, rfl⟩ := H
    go_enter Try.func37, Try.ntmps37
    go_wp2_with (first | ((with_reducible refine gate_callee (f := 57) rfl ?_); refine goesL_ (some 12) rfl rfl Try.func57 (by kernel_rfl) rfl #[.int .i64 (wrap64 (Int.tdiv a0 400)), .int .i64 9999] rfl (by (try simp only [List.map_toArray, List.map_cons, List.map_nil]); first | done | rfl | (simp only [List.length_drop, List.length_take]; rfl)) ?_; (with_reducible refine (interlocutorlaw1_within.calls (wrap64 (Int.tdiv a0 400)) 9999 t177 _ A3.out).mono ?_); rintro e w' ⟨rfl, ⟨nd, rfl⟩⟩; refine ⟨_, rfl, ?_⟩) | ((with_reducible refine gate_callee (f := 57) rfl ?_); refine goesL_ (some 18) rfl rfl Try.func57 (by kernel_rfl) rfl #[.int .i64 (wrap64 (Int.tdiv a0 400)), .int .i64 30001] rfl (by (try simp only [List.map_toArray, List.map_cons, List.map_nil]); first | done | rfl | (simp only [List.length_drop, List.length_take]; rfl)) ?_; (with_reducible refine (interlocutorlaw1_within.calls (wrap64 (Int.tdiv a0 400)) 30001 t178 _ A5.out).mono ?_); rintro e w' ⟨rfl, ⟨nd, rfl⟩⟩; refine ⟨_, rfl, ?_⟩) | ((with_reducible refine gate_callee (f := 57) rfl ?_); refine goesL_ (some 21) rfl rfl Try.func57 (by kernel_rfl) rfl #[.int .i64 a0, .int .i64 12] rfl (by (try simp only [List.map_toArray, List.map_cons, List.map_nil]); first | done | rfl | (simp only [List.length_drop, List.length_take]; rfl)) ?_; (with_reducible refine (interlocutorlaw1_within.calls a0 12 t179 _ A6.out).mono ?_); rintro e w' ⟨rfl, ⟨nd, rfl⟩⟩; refine ⟨_, rfl, ?_⟩) | ((with_reducible refine gate_callee (f := 54) rfl ?_); refine goesL_ (some 29) rfl rfl Try.func54 (by kernel_rfl) rfl #[.int .i64 (wrap64 (t178 - 10000)), .int .i64 (wrap64 (1 + t179))] rfl (by (try simp only [List.map_toArray, List.map_cons, List.map_nil]); first | done | rfl | (simp only [List.length_drop, List.length_take]; rfl)) ?_; (with_reducible refine (interlocutorref1_Length.calls (wrap64 (t178 - 10000)) (wrap64 (1 + t179)) t180 _ A7.out).mono ?_); rintro e w' ⟨rfl, ⟨nd, rfl⟩⟩; refine ⟨_, rfl, ?_⟩) | ((with_reducible refine gate_callee (f := 57) rfl ?_); refine goesL_ (some 30) rfl rfl Try.func57 (by kernel_rfl) rfl #[.int .i64 (wrap64 (Int.tdiv a0 12)), .int .i64 t180] rfl (by (try simp only [List.map_toArray, List.map_cons, List.map_nil]); first | done | rfl | (simp only [List.length_drop, List.length_take]; rfl)) ?_; (with_reducible refine (interlocutorlaw1_within.calls (wrap64 (Int.tdiv a0 12)) t180 t181 _ A8.out).mono ?_); rintro e w' ⟨rfl, ⟨nd, rfl⟩⟩; refine ⟨_, rfl, ?_⟩))
    go_ret3
    exact ⟨by first | rfl | (simp; done) | (simp [*]; done), by repeat (first | exact Drawn0.refl _ | apply Drawn0.step)⟩
  · replace c4 := Bool.eq_false_iff.mpr c4
    subst c4
    have H1 : ((interlocutorlaw1_within.f a0 12).bind fun t182 => ((interlocutorref1_Length.f (wrap64 (1 + t177)) (wrap64 (1 + t182))).bind fun t183 => ((interlocutorlaw1_within.f (wrap64 (Int.tdiv a0 12)) t183).bind fun t184 => (some (wrap64 (1 + t177), wrap64 (1 + t182), wrap64 (1 + t184)))))) = some (r1, r2, r3) := by rw [if_neg (show ¬ (false = true) by decide)] at H; exact H
    clear H
    have H := H1
    clear H1
    replace H := Option.bind_eq_some_iff.mp H
    obtain ⟨t182, A90, H⟩ := H
    replace H : ((interlocutorref1_Length.f (wrap64 (1 + t177)) (wrap64 (1 + t182))).bind fun t183 => ((interlocutorlaw1_within.f (wrap64 (Int.tdiv a0 12)) t183).bind fun t184 => (some (wrap64 (1 + t177), wrap64 (1 + t182), wrap64 (1 + t184))))) = some (r1, r2, r3) := H
    have A9 := Aside0.mk A90
    clear A90
    replace H := Option.bind_eq_some_iff.mp H
    obtain ⟨t183, A100, H⟩ := H
    replace H : ((interlocutorlaw1_within.f (wrap64 (Int.tdiv a0 12)) t183).bind fun t184 => (some (wrap64 (1 + t177), wrap64 (1 + t182), wrap64 (1 + t184)))) = some (r1, r2, r3) := H
    have A10 := Aside0.mk A100
    clear A100
    replace H := Option.bind_eq_some_iff.mp H
    obtain ⟨t184, A110, H⟩ := H
    replace H : (some (wrap64 (1 + t177), wrap64 (1 + t182), wrap64 (1 + t184))) = some (r1, r2, r3) := H
    have A11 := Aside0.mk A110
    clear A110
    simp only [Option.some.injEq, Prod.mk.injEq] at H
    obtain ⟨rfl, rfl, rfl⟩ := H
    go_enter Try.func37, Try.ntmps37
    go_wp2_with (first | ((with_reducible refine gate_callee (f := 57) rfl ?_); refine goesL_ (some 12) rfl rfl Try.func57 (by kernel_rfl) rfl #[.int .i64 (wrap64 (Int.tdiv a0 400)), .int .i64 9999] rfl (by (try simp only [List.map_toArray, List.map_cons, List.map_nil]); first | done | rfl | (simp only [List.length_drop, List.length_take]; rfl)) ?_; (with_reducible refine (interlocutorlaw1_within.calls (wrap64 (Int.tdiv a0 400)) 9999 t177 _ A3.out).mono ?_); rintro e w' ⟨rfl, ⟨nd, rfl⟩⟩; refine ⟨_, rfl, ?_⟩) | ((with_reducible refine gate_callee (f := 57) rfl ?_); refine goesL_ (some 21) rfl rfl Try.func57 (by kernel_rfl) rfl #[.int .i64 a0, .int .i64 12] rfl (by (try simp only [List.map_toArray, List.map_cons, List.map_nil]); first | done | rfl | (simp only [List.length_drop, List.length_take]; rfl)) ?_; (with_reducible refine (interlocutorlaw1_within.calls a0 12 t182 _ A9.out).mono ?_); rintro e w' ⟨rfl, ⟨nd, rfl⟩⟩; refine ⟨_, rfl, ?_⟩) | ((with_reducible refine gate_callee (f := 54) rfl ?_); refine goesL_ (some 29) rfl rfl Try.func54 (by kernel_rfl) rfl #[.int .i64 (wrap64 (1 + t177)), .int .i64 (wrap64 (1 + t182))] rfl (by (try simp only [List.map_toArray, List.map_cons, List.map_nil]); first | done | rfl | (simp only [List.length_drop, List.length_take]; rfl)) ?_; (with_reducible refine (interlocutorref1_Length.calls (wrap64 (1 + t177)) (wrap64 (1 + t182)) t183 _ A10.out).mono ?_); rintro e w' ⟨rfl, ⟨nd, rfl⟩⟩; refine ⟨_, rfl, ?_⟩) | ((with_reducible refine gate_callee (f := 57) rfl ?_); refine goesL_ (some 30) rfl rfl Try.func57 (by kernel_rfl) rfl #[.int .i64 (wrap64 (Int.tdiv a0 12)), .int .i64 t183] rfl (by (try simp only [List.map_toArray, List.map_cons, List.map_nil]); first | done | rfl | (simp only [List.length_drop, List.length_take]; rfl)) ?_; (with_reducible refine (interlocutorlaw1_within.calls (wrap64 (Int.tdiv a0 12)) t183 t184 _ A11.out).mono ?_); rintro e w' ⟨rfl, ⟨nd, rfl⟩⟩; refine ⟨_, rfl, ?_⟩))
    go_ret3
    exact ⟨by first | rfl | (simp; done) | (simp [*]; done), by repeat (first | exact Drawn0.refl _ | apply Drawn0.step)⟩
/-! ### interlocutorlaw2_within: function 88 -/
def interlocutorlaw2_within.f (a0 : Int) (a1 : Int) : Option (Int) := if a1 = 0 then (none) else (if (Int.tmod a0 a1) < 0 then (some (wrap64 ((Int.tmod a0 a1) + a1))) else (some (Int.tmod a0 a1)))
set_option maxHeartbeats 8000000 in
set_option maxRecDepth 100000 in
theorem interlocutorlaw2_within.calls (a0 : Int) (a1 : Int) (r : Int) (w : World) (h : interlocutorlaw2_within.f a0 a1 = some r) :
    Calls Try.prog 88 #[.int .i64 a0, .int .i64 a1] w fun e w' => e = .returned (.int .i64 r) ∧ Drawn0 w w' := by
  have H : (if a1 = 0 then (none) else (if (Int.tmod a0 a1) < 0 then (some (wrap64 ((Int.tmod a0 a1) + a1))) else (some (Int.tmod a0 a1)))) = some r := h
  clear h
  by_cases c3 : a1 = 0
  · rw [if_pos c3] at H
    exact absurd H (by simp)
  · rw [if_neg c3] at H
    have c3b0 : (a1 == 0) = false := beq_eq_false_iff_ne.mpr c3
    have c3b1 : (a1 != 0) = true := bne_iff_ne.mpr c3
    by_cases c4 : (Int.tmod a0 a1) < 0
    · rw [if_pos c4] at H
      have c4b0 : decide ((Int.tmod a0 a1) < 0) = true := decide_eq_true c4
      clear c4
      obtain rfl := Option.some.inj H
      go_enter Try.func88, Try.ntmps88
      go_wp2
      go_ret
      exact ⟨by first | rfl | (simp; done) | (simp [*]; done), by repeat (first | exact Drawn0.refl _ | apply Drawn0.step)⟩
    · rw [if_neg c4] at H
      have c4b0 : decide ((Int.tmod a0 a1) < 0) = false := decide_eq_false c4
      clear c4
      obtain rfl := Option.some.inj H
      go_enter Try.func88, Try.ntmps88
      go_wp2
      go_ret
      exact ⟨by first | rfl | (simp; done) | (simp [*]; done), by repeat (first | exact Drawn0.refl _ | apply Drawn0.step)⟩
/-! ### interlocutorlaw2_Make: function 49 -/
def interlocutorlaw2_Make.j0 : Nat → Int → Int → Option (Int × Int)
  | 0, _, _ => none
  | k + 1, x1, x6 => (interlocutorlaw2_within.f x1 11).bind fun t272 => (if t272 = 0 then ((interlocutorlaw2_within.f (wrap64 (Int.tdiv x1 7)) 19).bind fun t273 => (some (wrap64 ((wrap64 (Int.tdiv x6 1000000)) * 1000000), t273))) else ((interlocutorlaw2_within.f (wrap64 (Int.tdiv x1 7)) 19).bind fun t274 => (some (x6, t274))))
def interlocutorlaw2_Make.f (k : Nat) (a0 : Int) (a1 : Int) : Option (Int × Int) := (interlocutorlaw2_within.f a1 7).bind fun t270 => (if t270 = 0 then ((interlocutorlaw2_within.f a0 2000).bind fun t271 => (interlocutorlaw2_Make.j0 k a1 (wrap64 (t271 - 1000)))) else (interlocutorlaw2_Make.j0 k a1 (Int.tmod a0 1000000000000000000)))
set_option maxHeartbeats 8000000 in
set_option maxRecDepth 100000 in
theorem interlocutorlaw2_Make.calls (k : Nat) (a0 : Int) (a1 : Int) (r1 : Int) (r2 : Int) (w : World) (h : interlocutorlaw2_Make.f k a0 a1 = some (r1, r2)) :
    Calls Try.prog 49 #[.int .i64 a0, .int .i64 a1] w fun e w' => e = .returned (.tuple #[.int .i64 r1, .int .i64 r2]) ∧ Drawn0 w w' := by
  have H : ((interlocutorlaw2_within.f a1 7).bind fun t270 => (if t270 = 0 then ((interlocutorlaw2_within.f a0 2000).bind fun t271 => (interlocutorlaw2_Make.j0 k a1 (wrap64 (t271 - 1000)))) else (interlocutorlaw2_Make.j0 k a1 (Int.tmod a0 1000000000000000000)))) = some (r1, r2) := h
  clear h
  replace H := Option.bind_eq_some_iff.mp H
  obtain ⟨t270, A30, H⟩ := H
  replace H : (if t270 = 0 then ((interlocutorlaw2_within.f a0 2000).bind fun t271 => (interlocutorlaw2_Make.j0 k a1 (wrap64 (t271 - 1000)))) else (interlocutorlaw2_Make.j0 k a1 (Int.tmod a0 1000000000000000000))) = some (r1, r2) := H
  have A3 := Aside0.mk A30
  clear A30
  have HC4 := Aside0.mk H
  clear H
  go_enter Try.func49, Try.ntmps49
  go_upto_if 11 with (first | ((with_reducible refine gate_callee (f := 88) rfl ?_); refine goesL_ (some 10) rfl rfl Try.func88 (by kernel_rfl) rfl #[.int .i64 a1, .int .i64 7] rfl (by (try simp only [List.map_toArray, List.map_cons, List.map_nil]); first | done | rfl | (simp only [List.length_drop, List.length_take]; rfl)) ?_; (with_reducible refine (interlocutorlaw2_within.calls a1 7 t270 _ A3.out).mono ?_); rintro e w' ⟨rfl, ⟨nd, rfl⟩⟩; refine ⟨_, rfl, ?_⟩))
  (try simp only [Act.put, List.setIfInBounds_toArray, List.set_cons_zero, List.set_cons_succ])
  go_cut [6] (fun v6 wc => ∃ (kq : Nat) (x6_3 : Int), v6 = .int .i64 x6_3 ∧ Aside0 (interlocutorlaw2_Make.j0 kq a1 x6_3 = some (r1, r2)) ∧ Aside0 (kq ≤ k) ∧ Drawn0 w wc)
  case first =>
    have H := HC4.out
    clear HC4
    by_cases c5 : t270 = 0
    · rw [if_pos c5] at H
      have c5b0 : (t270 == 0) = true := beq_iff_eq.mpr c5
      have c5b1 : (t270 != 0) = false := bne_eq_false_iff_eq.mpr c5
      clear c5
      (first | rw [c5b0] | (simp only [i64_w, i32_w]; rw [c5b0]) | skip)
      replace H := Option.bind_eq_some_iff.mp H
      obtain ⟨t271, A60, H⟩ := H
      replace H : (interlocutorlaw2_Make.j0 k a1 (wrap64 (t271 - 1000))) = some (r1, r2) := H
      have A6 := Aside0.mk A60
      clear A60
      have H' := Aside0.mk H
      clear H
      go_wp2_with (first | ((with_reducible refine gate_callee (f := 88) rfl ?_); refine goesL_ (some 13) rfl rfl Try.func88 (by kernel_rfl) rfl #[.int .i64 a0, .int .i64 2000] rfl (by (try simp only [List.map_toArray, List.map_cons, List.map_nil]); first | done | rfl | (simp only [List.length_drop, List.length_take]; rfl)) ?_; (with_reducible refine (interlocutorlaw2_within.calls a0 2000 t271 _ A6.out).mono ?_); rintro e w' ⟨rfl, ⟨nd, rfl⟩⟩; refine ⟨_, rfl, ?_⟩))
      go_meet
      case rel => exact ⟨_, (wrap64 (t271 - 1000)), (by first | rfl | (simp; done) | (simp [*]; done)), H', ⟨by first | omega | exact Nat.le_refl _⟩, by repeat (first | exact Drawn0.refl _ | apply Drawn0.step)⟩
    · rw [if_neg c5] at H
      have c5b0 : (t270 == 0) = false := beq_eq_false_iff_ne.mpr c5
      have c5b1 : (t270 != 0) = true := bne_iff_ne.mpr c5
      (first | rw [c5b0] | (simp only [i64_w, i32_w]; rw [c5b0]) | skip)
      have H' := Aside0.mk H
      clear H
      go_wp2
      go_meet
      case rel => exact ⟨_, (Int.tmod a0 1000000000000000000), (by first | rfl | (simp; done) | (simp [*]; done)), H', ⟨by first | omega | exact Nat.le_refl _⟩, by repeat (first | exact Drawn0.refl _ | apply Drawn0.step)⟩
  case rest =>
    clear HC4
    try clear p2
    try clear c4
    try clear c5
    try clear c5b0
    try clear c5b1
    try clear p6
    obtain ⟨kq, x6_3, rfl, HA, HJ3, ⟨mc3, rfl⟩⟩ := hcut
    cases kq with
    | zero => exact absurd HA.out (by simp [interlocutorlaw2_Make.j0])
    | succ kj3 =>
      have H := HA.out
      clear HA
      simp only [interlocutorlaw2_Make.j0] at H
      replace H := Option.bind_eq_some_iff.mp H
      obtain ⟨t272, A70, H⟩ := H
      replace H : (if t272 = 0 then ((interlocutorlaw2_within.f (wrap64 (Int.tdiv a1 7)) 19).bind fun t273 => (some (wrap64 ((wrap64 (Int.tdiv x6_3 1000000)) * 1000000), t273))) else ((interlocutorlaw2_within.f (wrap64 (Int.tdiv a1 7)) 19).bind fun t274 => (some (x6_3, t274)))) = some (r1, r2) := H
      have A7 := Aside0.mk A70
      clear A70
      by_cases c8 : t272 = 0
      · rw [if_pos c8] at H
        have c8b0 : (t272 == 0) = true := beq_iff_eq.mpr c8
        have c8b1 : (t272 != 0) = false := bne_eq_false_iff_eq.mpr c8
        clear c8
        replace H := Option.bind_eq_some_iff.mp H
        obtain ⟨t273, A90, H⟩ := H
        replace H : (some (wrap64 ((wrap64 (Int.tdiv x6_3 1000000)) * 1000000), t273)) = some (r1, r2) := H
        have A9 := Aside0.mk A90
        clear A90
        simp only [Option.some.injEq, Prod.mk.injEq] at H
        obtain ⟨rfl, rfl⟩ := H
        go_wp2_with (first | ((with_reducible refine gate_callee (f := 88) rfl ?_); refine goesL_ (some 16) rfl rfl Try.func88 (by kernel_rfl) rfl #[.int .i64 a1, .int .i64 11] rfl (by (try simp only [List.map_toArray, List.map_cons, List.map_nil]); first | done | rfl | (simp only [List.length_drop, List.length_take]; rfl)) ?_; (with_reducible refine (interlocutorlaw2_within.calls a1 11 t272 _ A7.out).mono ?_); rintro e w' ⟨rfl, ⟨nd, rfl⟩⟩; refine ⟨_, rfl, ?_⟩) | ((with_reducible refine gate_callee (f := 88) rfl ?_); refine goesL_ (some 24) rfl rfl Try.func88 (by kernel_rfl) rfl #[.int .i64 (wrap64 (Int.tdiv a1 7)), .int .i64 19] rfl (by (try simp only [List.map_toArray, List.map_cons, List.map_nil]); first | done | rfl | (simp only [List.length_drop, List.length_take]; rfl)) ?_; (with_reducible refine (interlocutorlaw2_within.calls (wrap64 (Int.tdiv a1 7)) 19 t273 _ A9.out).mono ?_); rintro e w' ⟨rfl, ⟨nd, rfl⟩⟩; refine ⟨_, rfl, ?_⟩))
        go_ret2
        exact ⟨by first | rfl | (simp; done) | (simp [*]; done), by repeat (first | exact Drawn0.refl _ | apply Drawn0.step)⟩
      · rw [if_neg c8] at H
        have c8b0 : (t272 == 0) = false := beq_eq_false_iff_ne.mpr c8
        have c8b1 : (t272 != 0) = true := bne_iff_ne.mpr c8
        replace H := Option.bind_eq_some_iff.mp H
        obtain ⟨t274, A100, H⟩ := H
        replace H : (some (x6_3, t274)) = some (r1, r2) := H
        have A10 := Aside0.mk A100
        clear A100
        simp only [Option.some.injEq, Prod.mk.injEq] at H
        obtain ⟨rfl, rfl⟩ := H
        go_wp2_with (first | ((with_reducible refine gate_callee (f := 88) rfl ?_); refine goesL_ (some 16) rfl rfl Try.func88 (by kernel_rfl) rfl #[.int .i64 a1, .int .i64 11] rfl (by (try simp only [List.map_toArray, List.map_cons, List.map_nil]); first | done | rfl | (simp only [List.length_drop, List.length_take]; rfl)) ?_; (with_reducible refine (interlocutorlaw2_within.calls a1 11 t272 _ A7.out).mono ?_); rintro e w' ⟨rfl, ⟨nd, rfl⟩⟩; refine ⟨_, rfl, ?_⟩) | ((with_reducible refine gate_callee (f := 88) rfl ?_); refine goesL_ (some 24) rfl rfl Try.func88 (by kernel_rfl) rfl #[.int .i64 (wrap64 (Int.tdiv a1 7)), .int .i64 19] rfl (by (try simp only [List.map_toArray, List.map_cons, List.map_nil]); first | done | rfl | (simp only [List.length_drop, List.length_take]; rfl)) ?_; (with_reducible refine (interlocutorlaw2_within.calls (wrap64 (Int.tdiv a1 7)) 19 t274 _ A10.out).mono ?_); rintro e w' ⟨rfl, ⟨nd, rfl⟩⟩; refine ⟨_, rfl, ?_⟩))
        go_ret2
        exact ⟨by first | rfl | (simp; done) | (simp [*]; done), by repeat (first | exact Drawn0.refl _ | apply Drawn0.step)⟩
/-! ### interlocutorref1_Clock: function 51 -/
def interlocutorref1_Clock.f (a0 : Int) (a1 : Int) (a2 : Int) : Option (Bool) := if a0 ≥ 0 then (if a0 ≤ 23 then (if a1 ≥ 0 then (if a1 ≤ 59 then (if a2 ≥ 0 then (some (decide (a2 ≤ 59))) else (some false)) else (some false)) else (some false)) else (some false)) else (some false)
set_option maxHeartbeats 8000000 in
set_option maxRecDepth 100000 in
theorem interlocutorref1_Clock.calls (a0 : Int) (a1 : Int) (a2 : Int) (r : Bool) (w : World) (h : interlocutorref1_Clock.f a0 a1 a2 = some r) :
    Calls Try.prog 51 #[.int .i64 a0, .int .i64 a1, .int .i64 a2] w fun e w' => e = .returned (.bool r) ∧ Drawn0 w w' := by
  have H : (if a0 ≥ 0 then (if a0 ≤ 23 then (if a1 ≥ 0 then (if a1 ≤ 59 then (if a2 ≥ 0 then (some (decide (a2 ≤ 59))) else (some false)) else (some false)) else (some false)) else (some false)) else (some false)) = some r := h
  clear h
  by_cases c4 : a0 ≥ 0
  · rw [if_pos c4] at H
    have c4b0 : decide (0 ≤ a0) = true := decide_eq_true c4
    clear c4
    by_cases c5 : a0 ≤ 23
    · rw [if_pos c5] at H
      have c5b0 : decide (a0 ≤ 23) = true := decide_eq_true c5
      clear c5
      by_cases c6 : a1 ≥ 0
      · rw [if_pos c6] at H
        have c6b0 : decide (0 ≤ a1) = true := decide_eq_true c6
        clear c6
        by_cases c7 : a1 ≤ 59
        · rw [if_pos c7] at H
          have c7b0 : decide (a1 ≤ 59) = true := decide_eq_true c7
          clear c7
          by_cases c8 : a2 ≥ 0
          · rw [if_pos c8] at H
            have c8b0 : decide (0 ≤ a2) = true := decide_eq_true c8
            clear c8
            obtain rfl := Option.some.inj H
            go_enter Try.func51, Try.ntmps51
            go_wp2
            go_ret
            exact ⟨by first | rfl | (simp; done) | (simp [*]; done), by repeat (first | exact Drawn0.refl _ | apply Drawn0.step)⟩
          · rw [if_neg c8] at H
            have c8b0 : decide (0 ≤ a2) = false := decide_eq_false c8
            clear c8
            obtain rfl := Option.some.inj H
            go_enter Try.func51, Try.ntmps51
            go_wp2
            go_ret
            exact ⟨by first | rfl | (simp; done) | (simp [*]; done), by repeat (first | exact Drawn0.refl _ | apply Drawn0.step)⟩
        · rw [if_neg c7] at H
          have c7b0 : decide (a1 ≤ 59) = false := decide_eq_false c7
          clear c7
          obtain rfl := Option.some.inj H
          go_enter Try.func51, Try.ntmps51
          go_wp2
          go_ret
          exact ⟨by first | rfl | (simp; done) | (simp [*]; done), by repeat (first | exact Drawn0.refl _ | apply Drawn0.step)⟩
      · rw [if_neg c6] at H
        have c6b0 : decide (0 ≤ a1) = false := decide_eq_false c6
        clear c6
        obtain rfl := Option.some.inj H
        go_enter Try.func51, Try.ntmps51
        go_wp2
        go_ret
        exact ⟨by first | rfl | (simp; done) | (simp [*]; done), by repeat (first | exact Drawn0.refl _ | apply Drawn0.step)⟩
    · rw [if_neg c5] at H
      have c5b0 : decide (a0 ≤ 23) = false := decide_eq_false c5
      clear c5
      obtain rfl := Option.some.inj H
      go_enter Try.func51, Try.ntmps51
      go_wp2
      go_ret
      exact ⟨by first | rfl | (simp; done) | (simp [*]; done), by repeat (first | exact Drawn0.refl _ | apply Drawn0.step)⟩
  · rw [if_neg c4] at H
    have c4b0 : decide (0 ≤ a0) = false := decide_eq_false c4
    clear c4
    obtain rfl := Option.some.inj H
    go_enter Try.func51, Try.ntmps51
    go_wp2
    go_ret
    exact ⟨by first | rfl | (simp; done) | (simp [*]; done), by repeat (first | exact Drawn0.refl _ | apply Drawn0.step)⟩
/-! ### interlocutorref2_Norm: function 89 -/
def interlocutorref2_Norm.l0 : Nat → Int → Int → Option (Int × Int)
  | 0, _, _ => none
  | k + 1, x0, x1 => if x1 > 0 then (if (Int.tmod x0 10) = 0 then (interlocutorref2_Norm.l0 k (wrap64 (Int.tdiv x0 10)) (wrap64 (x1 - 1))) else (some (x0, x1))) else (some (x0, x1))
def interlocutorref2_Norm.f (k : Nat) (a0 : Int) (a1 : Int) : Option (Int × Int) := interlocutorref2_Norm.l0 k a0 a1
set_option maxHeartbeats 8000000 in
set_option maxRecDepth 100000 in
theorem interlocutorref2_Norm.calls (k : Nat) (a0 : Int) (a1 : Int) (r1 : Int) (r2 : Int) (w : World) (h : interlocutorref2_Norm.f k a0 a1 = some (r1, r2)) :
    Calls Try.prog 89 #[.int .i64 a0, .int .i64 a1] w fun e w' => e = .returned (.tuple #[.int .i64 r1, .int .i64 r2]) ∧ Drawn0 w w' := by
  have H : (interlocutorref2_Norm.l0 k a0 a1) = some (r1, r2) := h
  clear h
  have H' := Aside0.mk H
  clear H
  go_enter Try.func89, Try.ntmps89
  go_wp2
  go_loopg [0, 1] k (fun kq v0 v1 w' => ∃ (x0_1 : Int) (x1_1 : Int), v0 = .int .i64 x0_1 ∧ v1 = .int .i64 x1_1 ∧ Aside0 (interlocutorref2_Norm.l0 kq x0_1 x1_1 = some (r1, r2)) ∧ Aside0 (kq ≤ k) ∧ Drawn0 w w')
  case atStart => exact ⟨(a0), (a1), (by first | rfl | (simp; done) | (simp [*]; done)), (by first | rfl | (simp; done) | (simp [*]; done)), H', ⟨Nat.le_refl _⟩, by repeat (first | exact Drawn0.refl _ | apply Drawn0.step)⟩
  case round =>
    clear H'
    try clear p2
    obtain ⟨x0_1, x1_1, rfl, rfl, HA, HK1, ⟨m1, rfl⟩⟩ := hrel
    cases gk with
    | zero => exact absurd HA.out (by simp [interlocutorref2_Norm.l0])
    | succ k1 =>
      have H := HA.out
      clear HA
      simp only [interlocutorref2_Norm.l0] at H
      by_cases c3 : x1_1 > 0
      · rw [if_pos c3] at H
        have c3b0 : decide (0 < x1_1) = true := decide_eq_true c3
        clear c3
        by_cases c4 : (Int.tmod x0_1 10) = 0
        · rw [if_pos c4] at H
          have c4b0 : ((Int.tmod x0_1 10) == 0) = true := beq_iff_eq.mpr c4
          have c4b1 : ((Int.tmod x0_1 10) != 0) = false := bne_eq_false_iff_eq.mpr c4
          clear c4
          have H' := Aside0.mk H
          clear H
          go_wp2
          go_roundg k1
          case measure => have := HK1.out; omega
          case rel => exact ⟨(wrap64 (Int.tdiv x0_1 10)), (wrap64 (x1_1 - 1)), (by first | rfl | (simp; done) | (simp [*]; done)), (by first | rfl | (simp; done) | (simp [*]; done)), H', ⟨by have := HK1.out; omega⟩, by repeat (first | exact Drawn0.refl _ | apply Drawn0.step)⟩
        · rw [if_neg c4] at H
          have c4b0 : ((Int.tmod x0_1 10) == 0) = false := beq_eq_false_iff_ne.mpr c4
          have c4b1 : ((Int.tmod x0_1 10) != 0) = true := bne_iff_ne.mpr c4
          simp only [Option.some.injEq, Prod.mk.injEq] at H
          obtain ⟨rfl, rfl⟩ := H
          go_wp2
          go_ret2
          exact ⟨by first | rfl | (simp; done) | (simp [*]; done), by repeat (first | exact Drawn0.refl _ | apply Drawn0.step)⟩
      · rw [if_neg c3] at H
        have c3b0 : decide (0 < x1_1) = false := decide_eq_false c3
        clear c3
        simp only [Option.some.injEq, Prod.mk.injEq] at H
        obtain ⟨rfl, rfl⟩ := H
        go_wp2
        go_ret2
        exact ⟨by first | rfl | (simp; done) | (simp [*]; done), by repeat (first | exact Drawn0.refl _ | apply Drawn0.step)⟩
/-! ### interlocutorref2_Right: function 52 -/
def interlocutorref2_Right.f (k : Nat) (a0 : Int) (a1 : Int) : Option (Bool) := if a0 ≤ (-1000000000000000000) then (some false) else (if a0 ≥ 1000000000000000000 then (some false) else (if a1 < 0 then (some false) else (if a1 > 18 then (some false) else ((interlocutorref2_Norm.f k a0 a1).bind fun bt192 => (if bt192.1 = a0 then (some (bt192.2 == a1)) else (some false))))))
set_option maxHeartbeats 8000000 in
set_option maxRecDepth 100000 in
theorem interlocutorref2_Right.calls (k : Nat) (a0 : Int) (a1 : Int) (r : Bool) (w : World) (h : interlocutorref2_Right.f k a0 a1 = some r) :
    Calls Try.prog 52 #[.int .i64 a0, .int .i64 a1] w fun e w' => e = .returned (.bool r) ∧ Drawn0 w w' := by
  have H : (if a0 ≤ (-1000000000000000000) then (some false) else (if a0 ≥ 1000000000000000000 then (some false) else (if a1 < 0 then (some false) else (if a1 > 18 then (some false) else ((interlocutorref2_Norm.f k a0 a1).bind fun bt192 => (if bt192.1 = a0 then (some (bt192.2 == a1)) else (some false))))))) = some r := h
  clear h
  by_cases c3 : a0 ≤ (-1000000000000000000)
  · rw [if_pos c3] at H
    have c3b0 : decide (a0 ≤ (-1000000000000000000)) = true := decide_eq_true c3
    clear c3
    obtain rfl := Option.some.inj H
    go_enter Try.func52, Try.ntmps52
    go_wp2
    go_ret
    exact ⟨by first | rfl | (simp; done) | (simp [*]; done), by repeat (first | exact Drawn0.refl _ | apply Drawn0.step)⟩
  · rw [if_neg c3] at H
    have c3b0 : decide (a0 ≤ (-1000000000000000000)) = false := decide_eq_false c3
    clear c3
    by_cases c4 : a0 ≥ 1000000000000000000
    · rw [if_pos c4] at H
      have c4b0 : decide (1000000000000000000 ≤ a0) = true := decide_eq_true c4
      clear c4
      obtain rfl := Option.some.inj H
      go_enter Try.func52, Try.ntmps52
      go_wp2
      go_ret
      exact ⟨by first | rfl | (simp; done) | (simp [*]; done), by repeat (first | exact Drawn0.refl _ | apply Drawn0.step)⟩
    · rw [if_neg c4] at H
      have c4b0 : decide (1000000000000000000 ≤ a0) = false := decide_eq_false c4
      clear c4
      by_cases c5 : a1 < 0
      · rw [if_pos c5] at H
        have c5b0 : decide (a1 < 0) = true := decide_eq_true c5
        clear c5
        obtain rfl := Option.some.inj H
        go_enter Try.func52, Try.ntmps52
        go_wp2
        go_ret
        exact ⟨by first | rfl | (simp; done) | (simp [*]; done), by repeat (first | exact Drawn0.refl _ | apply Drawn0.step)⟩
      · rw [if_neg c5] at H
        have c5b0 : decide (a1 < 0) = false := decide_eq_false c5
        clear c5
        by_cases c6 : a1 > 18
        · rw [if_pos c6] at H
          have c6b0 : decide (18 < a1) = true := decide_eq_true c6
          clear c6
          obtain rfl := Option.some.inj H
          go_enter Try.func52, Try.ntmps52
          go_wp2
          go_ret
          exact ⟨by first | rfl | (simp; done) | (simp [*]; done), by repeat (first | exact Drawn0.refl _ | apply Drawn0.step)⟩
        · rw [if_neg c6] at H
          have c6b0 : decide (18 < a1) = false := decide_eq_false c6
          clear c6
          replace H := Option.bind_eq_some_iff.mp H
          obtain ⟨⟨t192, t193⟩, A70, H⟩ := H
          replace H : (if t192 = a0 then (some (t193 == a1)) else (some false)) = some r := H
          have A7 := Aside0.mk A70
          clear A70
          by_cases c8 : t192 = a0
          · rw [if_pos c8] at H
            have c8b0 : (t192 == a0) = true := beq_iff_eq.mpr c8
            have c8b1 : (t192 != a0) = false := bne_eq_false_iff_eq.mpr c8
            clear c8
            obtain rfl := Option.some.inj H
            go_enter Try.func52, Try.ntmps52
            go_wp2_with (first | ((with_reducible refine gate_callee (f := 89) rfl ?_); refine goesL_ (some 24) rfl rfl Try.func89 (by kernel_rfl) rfl #[.int .i64 a0, .int .i64 a1] rfl (by (try simp only [List.map_toArray, List.map_cons, List.map_nil]); first | done | rfl | (simp only [List.length_drop, List.length_take]; rfl)) ?_; (with_reducible refine (interlocutorref2_Norm.calls k a0 a1 t192 t193 _ A7.out).mono ?_); rintro e w' ⟨rfl, ⟨nd, rfl⟩⟩; refine ⟨_, rfl, ?_⟩))
            go_ret
            exact ⟨by first | rfl | (simp; done) | (simp [*]; done), by repeat (first | exact Drawn0.refl _ | apply Drawn0.step)⟩
          · rw [if_neg c8] at H
            have c8b0 : (t192 == a0) = false := beq_eq_false_iff_ne.mpr c8
            have c8b1 : (t192 != a0) = true := bne_iff_ne.mpr c8
            obtain rfl := Option.some.inj H
            go_enter Try.func52, Try.ntmps52
            go_wp2_with (first | ((with_reducible refine gate_callee (f := 89) rfl ?_); refine goesL_ (some 24) rfl rfl Try.func89 (by kernel_rfl) rfl #[.int .i64 a0, .int .i64 a1] rfl (by (try simp only [List.map_toArray, List.map_cons, List.map_nil]); first | done | rfl | (simp only [List.length_drop, List.length_take]; rfl)) ?_; (with_reducible refine (interlocutorref2_Norm.calls k a0 a1 t192 t193 _ A7.out).mono ?_); rintro e w' ⟨rfl, ⟨nd, rfl⟩⟩; refine ⟨_, rfl, ?_⟩))
            go_ret
            exact ⟨by first | rfl | (simp; done) | (simp [*]; done), by repeat (first | exact Drawn0.refl _ | apply Drawn0.step)⟩
/-! ### interlocutorref1_Weekday: function 32 -/
def interlocutorref1_Weekday.f (a0 : Int) (a1 : Int) (a2 : Int) : Option (Int) := (interlocutorref1_Days.f a0 a1 a2).bind fun t501 => ((interlocutorref1_floor.f (wrap64 (t501 + 3)) 7).bind fun t502 => (some (wrap64 ((wrap64 (t501 + 3)) - (wrap64 (7 * t502))))))
set_option maxHeartbeats 8000000 in
set_option maxRecDepth 100000 in
theorem interlocutorref1_Weekday.calls (a0 : Int) (a1 : Int) (a2 : Int) (r : Int) (w : World) (h : interlocutorref1_Weekday.f a0 a1 a2 = some r) :
    Calls Try.prog 32 #[.int .i64 a0, .int .i64 a1, .int .i64 a2] w fun e w' => e = .returned (.int .i64 r) ∧ Drawn0 w w' := by
  have H : ((interlocutorref1_Days.f a0 a1 a2).bind fun t501 => ((interlocutorref1_floor.f (wrap64 (t501 + 3)) 7).bind fun t502 => (some (wrap64 ((wrap64 (t501 + 3)) - (wrap64 (7 * t502))))))) = some r := h
  clear h
  replace H := Option.bind_eq_some_iff.mp H
  obtain ⟨t501, A40, H⟩ := H
  replace H : ((interlocutorref1_floor.f (wrap64 (t501 + 3)) 7).bind fun t502 => (some (wrap64 ((wrap64 (t501 + 3)) - (wrap64 (7 * t502)))))) = some r := H
  have A4 := Aside0.mk A40
  clear A40
  replace H := Option.bind_eq_some_iff.mp H
  obtain ⟨t502, A50, H⟩ := H
  replace H : (some (wrap64 ((wrap64 (t501 + 3)) - (wrap64 (7 * t502))))) = some r := H
  have A5 := Aside0.mk A50
  clear A50
  obtain rfl := Option.some.inj H
  go_enter Try.func32, Try.ntmps32
  go_wp2_with (first | ((with_reducible refine gate_callee (f := 31) rfl ?_); refine goesL_ (some 11) rfl rfl Try.func31 (by kernel_rfl) rfl #[.int .i64 a0, .int .i64 a1, .int .i64 a2] rfl (by (try simp only [List.map_toArray, List.map_cons, List.map_nil]); first | done | rfl | (simp only [List.length_drop, List.length_take]; rfl)) ?_; (with_reducible refine (interlocutorref1_Days.calls a0 a1 a2 t501 _ A4.out).mono ?_); rintro e w' ⟨rfl, ⟨nd, rfl⟩⟩; refine ⟨_, rfl, ?_⟩) | ((with_reducible refine gate_callee (f := 53) rfl ?_); refine goesL_ (some 15) rfl rfl Try.func53 (by kernel_rfl) rfl #[.int .i64 (wrap64 (t501 + 3)), .int .i64 7] rfl (by (try simp only [List.map_toArray, List.map_cons, List.map_nil]); first | done | rfl | (simp only [List.length_drop, List.length_take]; rfl)) ?_; (with_reducible refine (interlocutorref1_floor.calls (wrap64 (t501 + 3)) 7 t502 _ A5.out).mono ?_); rintro e w' ⟨rfl, ⟨nd, rfl⟩⟩; refine ⟨_, rfl, ?_⟩))
  go_ret
  exact ⟨by first | rfl | (simp; done) | (simp [*]; done), by repeat (first | exact Drawn0.refl _ | apply Drawn0.step)⟩
/-! ### interlocutorref2_Ten: function 116 -/
def interlocutorref2_Ten.l0 : Nat → Int → Int → Int → Option (Int)
  | 0, _, _, _ => none
  | k + 1, x0, x3, x4 => if x4 < x0 then (interlocutorref2_Ten.l0 k x0 (wrap64 (10 * x3)) (wrap64 (x4 + 1))) else (some x3)
def interlocutorref2_Ten.f (k : Nat) (a0 : Int) : Option (Int) := interlocutorref2_Ten.l0 k a0 1 0
set_option maxHeartbeats 8000000 in
set_option maxRecDepth 100000 in
theorem interlocutorref2_Ten.calls (k : Nat) (a0 : Int) (r : Int) (w : World) (h : interlocutorref2_Ten.f k a0 = some r) :
    Calls Try.prog 116 #[.int .i64 a0] w fun e w' => e = .returned (.int .i64 r) ∧ Drawn0 w w' := by
  have H : (interlocutorref2_Ten.l0 k a0 1 0) = some r := h
  clear h
  have H' := Aside0.mk H
  clear H
  go_enter Try.func116, Try.ntmps116
  go_wp2
  go_loopg [3, 4] k (fun kq v3 v4 w' => ∃ (x3_1 : Int) (x4_1 : Int), v3 = .int .i64 x3_1 ∧ v4 = .int .i64 x4_1 ∧ Aside0 (interlocutorref2_Ten.l0 kq a0 x3_1 x4_1 = some r) ∧ Aside0 (kq ≤ k) ∧ Drawn0 w w')
  case atStart => exact ⟨(1), (0), (by first | rfl | (simp; done) | (simp [*]; done)), (by first | rfl | (simp; done) | (simp [*]; done)), H', ⟨Nat.le_refl _⟩, by repeat (first | exact Drawn0.refl _ | apply Drawn0.step)⟩
  case round =>
    clear H'
    try clear c1
    obtain ⟨x3_1, x4_1, rfl, rfl, HA, HK1, ⟨m1, rfl⟩⟩ := hrel
    cases gk with
    | zero => exact absurd HA.out (by simp [interlocutorref2_Ten.l0])
    | succ k1 =>
      have H := HA.out
      clear HA
      simp only [interlocutorref2_Ten.l0] at H
      by_cases c2 : x4_1 < a0
      · rw [if_pos c2] at H
        have c2b0 : decide (x4_1 < a0) = true := decide_eq_true c2
        clear c2
        have H' := Aside0.mk H
        clear H
        go_wp2
        go_roundg k1
        case measure => have := HK1.out; omega
        case rel => exact ⟨(wrap64 (10 * x3_1)), (wrap64 (x4_1 + 1)), (by first | rfl | (simp; done) | (simp [*]; done)), (by first | rfl | (simp; done) | (simp [*]; done)), H', ⟨by have := HK1.out; omega⟩, by repeat (first | exact Drawn0.refl _ | apply Drawn0.step)⟩
      · rw [if_neg c2] at H
        have c2b0 : decide (x4_1 < a0) = false := decide_eq_false c2
        clear c2
        obtain rfl := Option.some.inj H
        go_wp2
        go_ret
        exact ⟨by first | rfl | (simp; done) | (simp [*]; done), by repeat (first | exact Drawn0.refl _ | apply Drawn0.step)⟩
end Go.Proofs.Ytldfljlklfhjkaa.PE
