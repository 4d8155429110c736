/- Each call of a function that is printed here answers what its plain Lean function answers; written by a program of this session (wip/myprint.py) over the kit's print. Conditions: that the plain function answers. -/
import Derived.Test.YtldfljlklfhjkaaPEx0
namespace Go.Proofs.Ytldfljlklfhjkaa.PE
open Go.RowKit Go.Proofs.YtldfljlklfhjkaaW.PrintWords Go.Proofs.YtldfljlklfhjkaaW.PrintLast Go.Proofs.YtldfljlklfhjkaaW.PrintMore
attribute [local go_sem] max2_int min2_int max_two min_two max_three min_three max_four min_four   -- for this text's walks alone
set_option linter.unusedVariables false
set_option linter.unusedSimpArgs false

/-! ### act_fields: function 44 -/
def act_fields.f (a0 : Int) : Option (Int) := if a0 < 4 then (some (-1)) else (if a0 > 10 then (some (-1)) else ((some (([3, 3, 6, 2, 2, 1, 6] : List Int) : List Int)).bind fun y101 => (if 0 ≤ (wrap64 (a0 - 4)) then (if (wrap64 (a0 - 4)) < (y101.length : Int) then (some (rd y101 (wrap64 (a0 - 4)))) else (none)) else (none))))
set_option maxHeartbeats 8000000 in
set_option maxRecDepth 100000 in
theorem act_fields.calls (a0 : Int) (r : Int) (w : World) (h : act_fields.f a0 = some r) :
    Calls Try.prog 44 #[.int .i64 a0] w fun e w' => e = .returned (.int .i64 r) ∧ Below w.heap.size w w' := by
  have HB := Aside0.mk (Below.refl w.heap.size w)
  have H : (if a0 < 4 then (some (-1)) else (if a0 > 10 then (some (-1)) else ((some (([3, 3, 6, 2, 2, 1, 6] : List Int) : List Int)).bind fun y101 => (if 0 ≤ (wrap64 (a0 - 4)) then (if (wrap64 (a0 - 4)) < (y101.length : Int) then (some (rd y101 (wrap64 (a0 - 4)))) else (none)) else (none))))) = some r := h
  clear h
  by_cases c2 : a0 < 4
  · rw [if_pos c2] at H
    have c2b0 : decide (a0 < 4) = true := decide_eq_true c2
    clear c2
    obtain rfl := Option.some.inj H
    go_enter Try.func44, Try.ntmps44
    go_wp2
    go_ret
    exact ⟨by first | rfl | (simp [errW_none, errW_some] <;> rfl) | (simp [*, errW_none, errW_some] <;> rfl), by repeat (first | (with_reducible first | exact HB.out | apply below_alloc | apply pw_below_drewN | apply below_drew1) | exact HB.out)⟩
  · rw [if_neg c2] at H
    have c2b0 : decide (a0 < 4) = false := decide_eq_false c2
    clear c2
    by_cases c3 : a0 > 10
    · rw [if_pos c3] at H
      have c3b0 : decide (10 < a0) = true := decide_eq_true c3
      clear c3
      obtain rfl := Option.some.inj H
      go_enter Try.func44, Try.ntmps44
      go_wp2
      go_ret
      exact ⟨by first | rfl | (simp [errW_none, errW_some] <;> rfl) | (simp [*, errW_none, errW_some] <;> rfl), by repeat (first | (with_reducible first | exact HB.out | apply below_alloc | apply pw_below_drewN | apply below_drew1) | exact HB.out)⟩
    · rw [if_neg c3] at H
      have c3b0 : decide (10 < a0) = false := decide_eq_false c3
      clear c3
      obtain ⟨y101, hy101⟩ : ∃ y_ : List Int, y_ = (([3, 3, 6, 2, 2, 1, 6] : List Int)) := ⟨_, rfl⟩
      replace H : (if 0 ≤ (wrap64 (a0 - 4)) then (if (wrap64 (a0 - 4)) < (y101.length : Int) then (some (rd y101 (wrap64 (a0 - 4)))) else (none)) else (none)) = some r := by first | (rw [hy101]; with_reducible exact H) | (have H2_ := (Option.bind_some _ _).symm.trans H; rw [hy101]; with_reducible exact H2_) | (have H2_ := (Option.bind_some _ _).symm.trans H; with_reducible exact H2_) | with_reducible exact H | (rw [hy101]; exact H) | exact H
      have Ny101 := Aside0.mk hy101
      clear hy101
      obtain ⟨ji4, hji4⟩ : ∃ j_ : Int, (wrap64 (a0 - 4)) = j_ := ⟨_, rfl⟩
      replace H : (if 0 ≤ (ji4) then (if (ji4) < (y101.length : Int) then (some (rd y101 (ji4))) else (none)) else (none)) = some r := by first | (rw [hji4] at H; exact H) | (simp only [hji4] at H ⊢; exact H)
      have hji4w : (IntKind.i64.wrap (a0 - 4)) = ji4 := (i64_w _).trans hji4
      by_cases c5 : 0 ≤ (ji4)
      · rw [if_pos c5] at H
        have c5b0 : decide (0 ≤ (ji4)) = true := decide_eq_true c5
        clear c5
        by_cases c6 : (ji4) < (y101.length : Int)
        · rw [if_pos c6] at H
          have c6b0 : decide ((ji4) < (y101.length : Int)) = true := decide_eq_true c6
          clear c6
          obtain rfl := Option.some.inj H
          go_enter Try.func44, Try.ntmps44
          go_wp2_with (first | ((with_reducible refine gate_dst (N := 9) rfl ?_); refine Kd.R_lit (Kd.int .i64) _ 3 ?hg (N := 9) ?hd (xs := ([3, 3, 6, 2, 2, 1, 6] : List Int)) (inner := [.int .i64 3, .int .i64 3, .int .i64 6, .int .i64 2, .int .i64 2, .int .i64 1, .int .i64 6]) (ok := fun _ => True) (okp := fun _ => True) ?hr ?hp (fun _ hk => hk) trivial (Below.refl _ _) (Nat.le_refl _) (by simp) ?_; (case hd => rfl); (case hg => rfl); (case hr => first | (go_simp; done) | (go_simp; rfl)); (case hp => exact (Reps.one (show Kd.M (Kd.int .i64) _ _ _ 3 [.int .i64 3] from rfl) (Reps.one (show Kd.M (Kd.int .i64) _ _ _ 3 [.int .i64 3] from rfl) (Reps.one (show Kd.M (Kd.int .i64) _ _ _ 6 [.int .i64 6] from rfl) (Reps.one (show Kd.M (Kd.int .i64) _ _ _ 2 [.int .i64 2] from rfl) (Reps.one (show Kd.M (Kd.int .i64) _ _ _ 2 [.int .i64 2] from rfl) (Reps.one (show Kd.M (Kd.int .i64) _ _ _ 1 [.int .i64 1] from rfl) (Reps.one (show Kd.M (Kd.int .i64) _ _ _ 6 [.int .i64 6] from rfl) (Reps.none _ _))))))))); intro v102 w7 ho8 hb hg_ hnew_; clear hg_ hnew_; (first | rw [← Ny101.out] at ho8 | (simp only [Int.reduceToNat] at ho8; rw [← Ny101.out] at ho8)); have n0_ := Aside0.mk (Kd.R_lower ho8 (below_size (by repeat (first | (with_reducible first | exact HB.out | apply below_alloc | apply pw_below_drewN | apply below_drew1) | exact HB.out)))); have n1_ := Aside0.mk (below_step (by repeat (first | (with_reducible first | exact HB.out | apply below_alloc | apply pw_below_drewN | apply below_drew1) | exact HB.out)) hb); clear HB; have HO103 := n0_; have HB := n1_; clear n0_ n1_; clear hb ho8; obtain ⟨Ao9, co9, eo9⟩ := Kd.R_slice HO103.out; subst eo9; have p104 : 0 ≤ ((ji4) : Int) := of_decide_eq_true (by first | (with_reducible assumption) | assumption); have q104 : (ji4) < (y101.length : Int) := of_decide_eq_true (by first | (with_reducible assumption) | assumption); obtain ⟨ad104, e104, hx104_0⟩ := Kd.at_int (Kd.R_reads' HO103.out).2.2 (ji4) p104 q104; cases e104; replace p104 := eq_true p104; replace q104 := eq_true q104))
          go_ret
          exact ⟨by first | rfl | (simp [errW_none, errW_some] <;> rfl) | (simp only [← hji4]; first | rfl | (simp [errW_none, errW_some] <;> rfl)) | (simp [*, errW_none, errW_some] <;> rfl), by repeat (first | (with_reducible first | exact HB.out | apply below_alloc | apply pw_below_drewN | apply below_drew1) | exact HB.out)⟩
        · rw [if_neg c6] at H
          exact absurd H (by simp)
      · rw [if_neg c5] at H
        exact absurd H (by simp)

/-! ### civil_leap: function 118 -/
def civil_leap.f (a0 : Int) : Option (Bool) := if (Int.tmod a0 4) = 0 then (if (Int.tmod a0 100) = 0 then (some ((Int.tmod a0 400) == 0)) else (some true)) else (some ((Int.tmod a0 400) == 0))
set_option maxHeartbeats 8000000 in
set_option maxRecDepth 100000 in
theorem civil_leap.calls (a0 : Int) (r : Bool) (w : World) (h : civil_leap.f a0 = some r) :
    Calls Try.prog 118 #[.int .i64 a0] w fun e w' => e = .returned (.bool r) ∧ Drawn0 w w' := by
  have H : (if (Int.tmod a0 4) = 0 then (if (Int.tmod a0 100) = 0 then (some ((Int.tmod a0 400) == 0)) else (some true)) else (some ((Int.tmod a0 400) == 0))) = some r := h
  clear h
  by_cases c2 : (Int.tmod a0 4) = 0
  · rw [if_pos c2] at H
    have c2b0 : ((Int.tmod a0 4) == 0) = true := beq_iff_eq.mpr c2
    have c2b1 : ((Int.tmod a0 4) != 0) = false := bne_eq_false_iff_eq.mpr c2
    clear c2
    by_cases c3 : (Int.tmod a0 100) = 0
    · rw [if_pos c3] at H
      have c3b0 : ((Int.tmod a0 100) == 0) = true := beq_iff_eq.mpr c3
      have c3b1 : ((Int.tmod a0 100) != 0) = false := bne_eq_false_iff_eq.mpr c3
      clear c3
      obtain rfl := Option.some.inj H
      go_enter Try.func118, Try.ntmps118
      go_wp2
      go_ret
      exact ⟨by first | rfl | (simp; done) | (simp [*]; done), by repeat (first | exact Drawn0.refl _ | apply Drawn0.step)⟩
    · rw [if_neg c3] at H
      have c3b0 : ((Int.tmod a0 100) == 0) = false := beq_eq_false_iff_ne.mpr c3
      have c3b1 : ((Int.tmod a0 100) != 0) = true := bne_iff_ne.mpr c3
      obtain rfl := Option.some.inj H
      go_enter Try.func118, Try.ntmps118
      go_wp2
      go_ret
      exact ⟨by first | rfl | (simp; done) | (simp [*]; done), by repeat (first | exact Drawn0.refl _ | apply Drawn0.step)⟩
  · rw [if_neg c2] at H
    have c2b0 : ((Int.tmod a0 4) == 0) = false := beq_eq_false_iff_ne.mpr c2
    have c2b1 : ((Int.tmod a0 4) != 0) = true := bne_iff_ne.mpr c2
    obtain rfl := Option.some.inj H
    go_enter Try.func118, Try.ntmps118
    go_wp2
    go_ret
    exact ⟨by first | rfl | (simp; done) | (simp [*]; done), by repeat (first | exact Drawn0.refl _ | apply Drawn0.step)⟩

/-! ### civil_Length: function 108 -/
def civil_Length.f (a0 : Int) (a1 : Int) : Option (Int) := if a1 = 2 then ((civil_leap.f a0).bind fun t105 => (if t105 = true then (some 29) else (some 28))) else (if a1 = 4 then (some 30) else (if a1 = 6 then (some 30) else (if a1 = 9 then (some 30) else (if a1 = 11 then (some 30) else (some 31)))))
set_option maxHeartbeats 8000000 in
set_option maxRecDepth 100000 in
theorem civil_Length.calls (a0 : Int) (a1 : Int) (r : Int) (w : World) (h : civil_Length.f a0 a1 = some r) :
    Calls Try.prog 108 #[.int .i64 a0, .int .i64 a1] w fun e w' => e = .returned (.int .i64 r) ∧ Drawn0 w w' := by
  have H : (if a1 = 2 then ((civil_leap.f a0).bind fun t105 => (if t105 = true then (some 29) else (some 28))) else (if a1 = 4 then (some 30) else (if a1 = 6 then (some 30) else (if a1 = 9 then (some 30) else (if a1 = 11 then (some 30) else (some 31)))))) = some r := h
  clear h
  by_cases c3 : a1 = 2
  · rw [if_pos c3] at H
    have c3b0 : (a1 == 2) = true := beq_iff_eq.mpr c3
    have c3b1 : (a1 != 2) = false := bne_eq_false_iff_eq.mpr c3
    clear c3
    replace H := Option.bind_eq_some_iff.mp H
    obtain ⟨t105, A40, H⟩ := H
    replace H : (if t105 = true then (some 29) else (some 28)) = some r := H
    have A4 := Aside0.mk A40
    clear A40
    by_cases c5 : t105 = true
    · subst c5
      have H1 : (some 29) = some r := by rw [if_pos rfl] at H; exact H
      clear H
      have H := H1
      clear H1
      obtain rfl := Option.some.inj H
      go_enter Try.func108, Try.ntmps108
      go_wp2_with (first | ((with_reducible refine gate_callee (f := 118) rfl ?_); refine goesL_ (some 9) rfl rfl Try.func118 (by kernel_rfl) rfl #[.int .i64 a0] rfl (by (try simp only [List.map_toArray, List.map_cons, List.map_nil]); first | done | rfl | (simp only [List.length_drop, List.length_take]; rfl)) ?_; (with_reducible refine (civil_leap.calls a0 true _ A4.out).mono ?_); rintro e w' ⟨rfl, ⟨nd, rfl⟩⟩; refine ⟨_, rfl, ?_⟩))
      go_ret
      exact ⟨by first | rfl | (simp; done) | (simp [*]; done), by repeat (first | exact Drawn0.refl _ | apply Drawn0.step)⟩
    · replace c5 := Bool.eq_false_iff.mpr c5
      subst c5
      have H1 : (some 28) = some r := by rw [if_neg (show ¬ (false = true) by decide)] at H; exact H
      clear H
      have H := H1
      clear H1
      obtain rfl := Option.some.inj H
      go_enter Try.func108, Try.ntmps108
      go_wp2_with (first | ((with_reducible refine gate_callee (f := 118) rfl ?_); refine goesL_ (some 9) rfl rfl Try.func118 (by kernel_rfl) rfl #[.int .i64 a0] rfl (by (try simp only [List.map_toArray, List.map_cons, List.map_nil]); first | done | rfl | (simp only [List.length_drop, List.length_take]; rfl)) ?_; (with_reducible refine (civil_leap.calls a0 false _ A4.out).mono ?_); rintro e w' ⟨rfl, ⟨nd, rfl⟩⟩; refine ⟨_, rfl, ?_⟩))
      go_ret
      exact ⟨by first | rfl | (simp; done) | (simp [*]; done), by repeat (first | exact Drawn0.refl _ | apply Drawn0.step)⟩
  · rw [if_neg c3] at H
    have c3b0 : (a1 == 2) = false := beq_eq_false_iff_ne.mpr c3
    have c3b1 : (a1 != 2) = true := bne_iff_ne.mpr c3
    by_cases c6 : a1 = 4
    · rw [if_pos c6] at H
      have c6b0 : (a1 == 4) = true := beq_iff_eq.mpr c6
      have c6b1 : (a1 != 4) = false := bne_eq_false_iff_eq.mpr c6
      clear c6
      obtain rfl := Option.some.inj H
      go_enter Try.func108, Try.ntmps108
      go_wp2
      go_ret
      exact ⟨by first | rfl | (simp; done) | (simp [*]; done), by repeat (first | exact Drawn0.refl _ | apply Drawn0.step)⟩
    · rw [if_neg c6] at H
      have c6b0 : (a1 == 4) = false := beq_eq_false_iff_ne.mpr c6
      have c6b1 : (a1 != 4) = true := bne_iff_ne.mpr c6
      by_cases c7 : a1 = 6
      · rw [if_pos c7] at H
        have c7b0 : (a1 == 6) = true := beq_iff_eq.mpr c7
        have c7b1 : (a1 != 6) = false := bne_eq_false_iff_eq.mpr c7
        clear c7
        obtain rfl := Option.some.inj H
        go_enter Try.func108, Try.ntmps108
        go_wp2
        go_ret
        exact ⟨by first | rfl | (simp; done) | (simp [*]; done), by repeat (first | exact Drawn0.refl _ | apply Drawn0.step)⟩
      · rw [if_neg c7] at H
        have c7b0 : (a1 == 6) = false := beq_eq_false_iff_ne.mpr c7
        have c7b1 : (a1 != 6) = true := bne_iff_ne.mpr c7
        by_cases c8 : a1 = 9
        · rw [if_pos c8] at H
          have c8b0 : (a1 == 9) = true := beq_iff_eq.mpr c8
          have c8b1 : (a1 != 9) = false := bne_eq_false_iff_eq.mpr c8
          clear c8
          obtain rfl := Option.some.inj H
          go_enter Try.func108, Try.ntmps108
          go_wp2
          go_ret
          exact ⟨by first | rfl | (simp; done) | (simp [*]; done), by repeat (first | exact Drawn0.refl _ | apply Drawn0.step)⟩
        · rw [if_neg c8] at H
          have c8b0 : (a1 == 9) = false := beq_eq_false_iff_ne.mpr c8
          have c8b1 : (a1 != 9) = true := bne_iff_ne.mpr c8
          by_cases c9 : a1 = 11
          · rw [if_pos c9] at H
            have c9b0 : (a1 == 11) = true := beq_iff_eq.mpr c9
            have c9b1 : (a1 != 11) = false := bne_eq_false_iff_eq.mpr c9
            clear c9
            obtain rfl := Option.some.inj H
            go_enter Try.func108, Try.ntmps108
            go_wp2
            go_ret
            exact ⟨by first | rfl | (simp; done) | (simp [*]; done), by repeat (first | exact Drawn0.refl _ | apply Drawn0.step)⟩
          · rw [if_neg c9] at H
            have c9b0 : (a1 == 11) = false := beq_eq_false_iff_ne.mpr c9
            have c9b1 : (a1 != 11) = true := bne_iff_ne.mpr c9
            obtain rfl := Option.some.inj H
            go_enter Try.func108, Try.ntmps108
            go_wp2
            go_ret
            exact ⟨by first | rfl | (simp; done) | (simp [*]; done), by repeat (first | exact Drawn0.refl _ | apply Drawn0.step)⟩

def leapB (y : Int) : Bool := y % 4 == 0 && (y % 100 != 0 || y % 400 == 0)
def lenOf (y m : Int) : Int := if m = 2 then (if leapB y = true then 29 else 28) else if m = 4 ∨ m = 6 ∨ m = 9 ∨ m = 11 then 30 else 31
theorem tmod_zero (a b : Int) : Int.tmod a b = 0 ↔ a % b = 0 := by
  rw [← Int.dvd_iff_tmod_eq_zero, Int.dvd_iff_emod_eq_zero]
theorem leap_of (y : Int) : civil_leap.f y = some (leapB y) := by
  unfold civil_leap.f leapB
  simp only [tmod_zero]
  have e : ∀ b : Int, ((Int.tmod y b) == 0) = (y % b == 0) := fun b => by rw [Bool.eq_iff_iff, beq_iff_eq, beq_iff_eq, tmod_zero]
  simp only [e]
  by_cases h4 : y % 4 = 0
  · by_cases h1 : y % 100 = 0
    · simp [h4, h1]
    · simp [h4, h1]
  · have h5 : (y % 400 == 0) = false := beq_eq_false_iff_ne.mpr (by omega)
    have h6 : (y % 4 == 0) = false := beq_eq_false_iff_ne.mpr h4
    rw [if_neg h4, h5, h6]; rfl
theorem length_of (y m : Int) : civil_Length.f y m = some (lenOf y m) := by
  unfold civil_Length.f lenOf
  rw [leap_of]
  simp only [Option.bind_some]
  by_cases h2 : m = 2
  · rw [if_pos h2, if_pos h2]; split <;> rfl
  · rw [if_neg h2, if_neg h2]
    by_cases h4 : m = 4
    · rw [if_pos h4, if_pos (by omega)]
    · by_cases h6 : m = 6
      · rw [if_neg h4, if_pos h6, if_pos (by omega)]
      · by_cases h9 : m = 9
        · rw [if_neg h4, if_neg h6, if_pos h9, if_pos (by omega)]
        · by_cases h11 : m = 11
          · rw [if_neg h4, if_neg h6, if_neg h9, if_pos h11, if_pos (by omega)]
          · rw [if_neg h4, if_neg h6, if_neg h9, if_neg h11, if_neg (by omega)]
theorem len_bd (y m : Int) : 28 ≤ lenOf y m ∧ lenOf y m ≤ 31 := by
  unfold lenOf; split
  · split <;> omega
  · split <;> omega


/-! ### civil_Right: function 85 -/
theorem eq_arr3 (w : World) (x y z a b c : Int) : (Op.equalIn 10000 91 (.agg #[.int .i64 x, .int .i64 y, .int .i64 z]) (.agg #[.int .i64 a, .int .i64 b, .int .i64 c])).run Try.prog w = .ok (decide (x = a ∧ y = b ∧ z = c)) w := by
  have hh : (Try.prog.info? 3).isSome = true := by kernel_rfl
  obtain ⟨i, hi⟩ := Option.isSome_iff_exists.mp hh
  rw [run_equalIn_array (P := Try.prog) (w := w) 9999 (t := 91) (e := 3) (n := 3) (i := i) _ _ Try.underlying91 hi]
  have hc : Try.prog.cellsOf 3 = 1 := by kernel_rfl
  rw [hc]
  simp only [List.range, List.range.loop, Op.eqItems]
  go_simp
  by_cases h1 : x = a <;> by_cases h2 : y = b <;> by_cases h3 : z = c <;> simp [h1, h2, h3]
/-- Right, of a moment's numbers. -/
def rightB (Y M D H I S : Int) : Bool := decide (1 ≤ Y ∧ Y ≤ 9999 ∧ 1 ≤ M ∧ M ≤ 12 ∧ 1 ≤ D ∧ D ≤ lenOf Y M ∧ 0 ≤ H ∧ H ≤ 23 ∧ 0 ≤ I ∧ I ≤ 59 ∧ 0 ≤ S ∧ S ≤ 59)
theorem length_quiet (y m L : Int) (w : World) (n : Nat) (hL : civil_Length.f y m = some L) :
    Calls Try.prog 108 #[.int .i64 y, .int .i64 m] (w.drewN n) fun e w' => e = .returned (.int .i64 L) ∧ ∃ m, w' = w.drewN m :=
  (civil_Length.calls _ _ _ _ hL).mono fun e w' ⟨he, ⟨k, hk⟩⟩ => ⟨he, n + k, by rw [hk, World.drewN_drewN]⟩

set_option maxHeartbeats 8000000 in
set_option maxRecDepth 100000 in
theorem right_calls (Y M D H I S : Int) (w : World) :
    Calls Try.prog 85 #[.agg #[.int .i64 Y, .int .i64 M, .int .i64 D, .int .i64 H, .int .i64 I, .int .i64 S]] w fun e w' => e = .returned (.bool (rightB Y M D H I S)) ∧ Below w.heap.size w w' := by
  have hL := Lib.hid (length_of Y M)
  have hR := Lib.hid (show rightB Y M D H I S = decide (1 ≤ Y ∧ Y ≤ 9999 ∧ 1 ≤ M ∧ M ≤ 12 ∧ 1 ≤ D ∧ D ≤ lenOf Y M ∧ 0 ≤ H ∧ H ≤ 23 ∧ 0 ≤ I ∧ I ≤ 59 ∧ 0 ≤ S ∧ S ≤ 59) from rfl)
  generalize lenOf Y M = L at *
  generalize rightB Y M D H I S = R at *
  by_cases c1 : Y < 1
  · obtain rfl : R = false := by rw [hR.out]; exact decide_eq_false (by omega)
    clear hR
    have d1 : decide (Y < 1) = true := decide_eq_true c1
    go_enter Try.func85, Try.ntmps85
    go_wp2_with fail
    go_quiet (fail)
    go_wp2_with fail
    go_ret
    exact ⟨rfl, by repeat (first | exact Below.refl _ _ | apply below_alloc | apply pw_below_drewN | apply below_drew1)⟩
  · have d1 : decide (Y < 1) = false := decide_eq_false c1
    by_cases c2 : 9999 < Y
    · obtain rfl : R = false := by rw [hR.out]; exact decide_eq_false (by omega)
      clear hR
      have d2 : decide (9999 < Y) = true := decide_eq_true c2
      go_enter Try.func85, Try.ntmps85
      go_wp2_with fail
      go_quiet (fail)
      go_wp2_with fail
      go_ret
      exact ⟨rfl, by repeat (first | exact Below.refl _ _ | apply below_alloc | apply pw_below_drewN | apply below_drew1)⟩
    · have d2 : decide (9999 < Y) = false := decide_eq_false c2
      by_cases c3 : M < 1
      · obtain rfl : R = false := by rw [hR.out]; exact decide_eq_false (by omega)
        clear hR
        have d3 : decide (M < 1) = true := decide_eq_true c3
        go_enter Try.func85, Try.ntmps85
        go_wp2_with fail
        go_quiet (fail)
        go_wp2_with fail
        go_ret
        exact ⟨rfl, by repeat (first | exact Below.refl _ _ | apply below_alloc | apply pw_below_drewN | apply below_drew1)⟩
      · have d3 : decide (M < 1) = false := decide_eq_false c3
        by_cases c4 : 12 < M
        · obtain rfl : R = false := by rw [hR.out]; exact decide_eq_false (by omega)
          clear hR
          have d4 : decide (12 < M) = true := decide_eq_true c4
          go_enter Try.func85, Try.ntmps85
          go_wp2_with fail
          go_quiet (fail)
          go_wp2_with fail
          go_ret
          exact ⟨rfl, by repeat (first | exact Below.refl _ _ | apply below_alloc | apply pw_below_drewN | apply below_drew1)⟩
        · have d4 : decide (12 < M) = false := decide_eq_false c4
          by_cases c5 : D < 1
          · obtain rfl : R = false := by rw [hR.out]; exact decide_eq_false (by omega)
            clear hR
            have d5 : decide (D < 1) = true := decide_eq_true c5
            go_enter Try.func85, Try.ntmps85
            go_wp2_with fail
            go_quiet (fail)
            go_wp2_with fail
            go_ret
            exact ⟨rfl, by repeat (first | exact Below.refl _ _ | apply below_alloc | apply pw_below_drewN | apply below_drew1)⟩
          · have d5 : decide (D < 1) = false := decide_eq_false c5
            by_cases c6 : L < D
            · obtain rfl : R = false := by rw [hR.out]; exact decide_eq_false (by omega)
              clear hR
              have d6 : decide (L < D) = true := decide_eq_true c6
              go_enter Try.func85, Try.ntmps85
              go_wp2_with fail
              go_quiet ((go_at_call 108; exact length_quiet _ _ _ _ _ hL.out))
              go_wp2_with fail
              go_ret
              exact ⟨rfl, by repeat (first | exact Below.refl _ _ | apply below_alloc | apply pw_below_drewN | apply below_drew1)⟩
            · have d6 : decide (L < D) = false := decide_eq_false c6
              have hb : 1 ≤ Y ∧ Y ≤ 9999 ∧ 1 ≤ M ∧ M ≤ 12 ∧ 1 ≤ D ∧ D ≤ L := ⟨by omega, by omega, by omega, by omega, by omega, by omega⟩
              have hR2 := Lib.hid (show R = decide (0 ≤ H ∧ H ≤ 23 ∧ 0 ≤ I ∧ I ≤ 59 ∧ 0 ≤ S ∧ S ≤ 59) by rw [hR.out]; simp only [hb, true_and])
              clear hR hb
              have hE := fun w x y z a b c => eq_arr3 w x y z a b c
              go_enter Try.func85, Try.ntmps85
              go_wp2_with fail
              go_quiet ((go_at_call 108; exact length_quiet _ _ _ _ _ hL.out))
              go_wp2_with fail
              all_goals
                go_ret
                refine ⟨congrArg (fun b => Ending.returned (.bool b)) ?_, by repeat (first | exact Below.refl _ _ | apply below_alloc | apply pw_below_drewN | apply below_drew1)⟩
                rw [hR2.out, Bool.eq_iff_iff]
                simp
                omega

def civil_Right.f (a0_0 : Int) (a0_1 : Int) (a0_2 : Int) (a0_3 : Int) (a0_4 : Int) (a0_5 : Int) : Option (Bool) := some (rightB a0_0 a0_1 a0_2 a0_3 a0_4 a0_5)
theorem civil_Right.calls (a0_0 : Int) (a0_1 : Int) (a0_2 : Int) (a0_3 : Int) (a0_4 : Int) (a0_5 : Int) (r : Bool) (w : World) (h : civil_Right.f a0_0 a0_1 a0_2 a0_3 a0_4 a0_5 = some r) :
    Calls Try.prog 85 #[.agg #[.int .i64 a0_0, .int .i64 a0_1, .int .i64 a0_2, .int .i64 a0_3, .int .i64 a0_4, .int .i64 a0_5]] w fun e w' => e = .returned (.bool r) ∧ Below w.heap.size w w' := by
  obtain rfl := Option.some.inj h
  exact right_calls a0_0 a0_1 a0_2 a0_3 a0_4 a0_5 w


end Go.Proofs.Ytldfljlklfhjkaa.PE
