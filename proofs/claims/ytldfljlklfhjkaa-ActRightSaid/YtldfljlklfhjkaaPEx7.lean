/- Each call of a function that is printed here answers what its plain Lean function answers; written by a program of this session (wip/myprint.py) over the kit's print. Conditions: that the plain function answers. -/
import Derived.Test.YtldfljlklfhjkaaPEx0
import Derived.Test.YtldfljlklfhjkaaPEx4
import Derived.Test.YtldfljlklfhjkaaPEx5
namespace Go.Proofs.Ytldfljlklfhjkaa.PE
open Go.RowKit Go.Proofs.YtldfljlklfhjkaaW.PrintWords Go.Proofs.YtldfljlklfhjkaaW.PrintLast Go.Proofs.YtldfljlklfhjkaaW.PrintMore
attribute [local go_sem] max2_int min2_int max_two min_two max_three min_three max_four min_four   -- for this text's walks alone
set_option linter.unusedVariables false
set_option linter.unusedSimpArgs false

/-! ### dec_Norm: function 86 -/
/-- A decimal's noughts, struck. -/
def normN : Nat → Int → Int × Int
  | 0, m => (m, 0)
  | s + 1, m => if m % 10 = 0 then normN s (m / 10) else (m, ((s + 1 : Nat) : Int))
def dec_Norm.f (a0 : Int) (a1 : Int) : Option (Int × Int) := if -9223372036854775808 ≤ a0 ∧ a0 ≤ 9223372036854775807 ∧ a1 ≤ 9223372036854775807 then some (normN a1.toNat a0) else none
theorem tmod10 (m : Int) : (Int.tmod m 10 == 0) = (m % 10 == 0) := by
  rw [Bool.eq_iff_iff, beq_iff_eq, beq_iff_eq, ← Int.dvd_iff_tmod_eq_zero, Int.dvd_iff_emod_eq_zero]
theorem tdiv10 (m : Int) (h : m % 10 = 0) : Int.tdiv m 10 = m / 10 := Int.tdiv_eq_ediv_of_dvd (Int.dvd_of_emod_eq_zero h)
theorem norm_zero (a0 a1 : Int) (w : World) (h : a1 ≤ 0) : Calls Try.prog 86 #[.int .i64 a0, .int .i64 a1] w fun e w' => e = .returned (.tuple #[.int .i64 a0, .int .i64 0]) ∧ w = w' := by
  go_enter Try.func86, Try.ntmps86
  go_wp2
  refine wp_scope_jumps 0 (fun _ _ => False) (fun _ _ => 0) rfl ?_ (fun _ _ h => h.elim)
  go_wp2
  go_step3
  go_wp2
  all_goals
    simp only [Exit.jump]
    go_ret2
  · exact ⟨rfl, rfl⟩
  · rename_i h1 _ h2
    obtain rfl : a1 = 0 := by omega
    exact ⟨rfl, rfl⟩
theorem normN_hit (s : Nat) (m : Int) (h : m % 10 = 0) : normN (s + 1) m = normN s (m / 10) := by rw [normN, if_pos h]
theorem normN_miss (s : Nat) (m : Int) (h : ¬ m % 10 = 0) : normN (s + 1) m = (m, ((s + 1 : Nat) : Int)) := by rw [normN, if_neg h]
set_option maxHeartbeats 800000 in
set_option maxRecDepth 100000 in
theorem norm_some (s0 : Nat) (m0 : Int) (w : World) (hs : (s0 : Int) ≤ 9223372036854775807) (b1 : -9223372036854775808 ≤ m0) (b2 : m0 ≤ 9223372036854775807) :
    Calls Try.prog 86 #[.int .i64 m0, .int .i64 s0] w fun e w' => e = .returned (.tuple #[.int .i64 (normN s0 m0).1, .int .i64 (normN s0 m0).2]) ∧ w = w' := by
  go_enter Try.func86, Try.ntmps86
  go_wp2
  refine wp_scope_jumps 0 (fun a' w' => w = w' ∧ ∃ (s : Nat) (m : Int) (u6 u7 u8 u9 u10 u11 u12 u13 u14 u15 u16 : Value), a' = { tmps := #[.int .i64 m, .int .i64 s, undef, undef, .int .i64 0, .int .i64 0, u6, u7, u8, u9, u10, u11, u12, u13, u14, u15, u16, undef, undef, undef], defers := [] } ∧ Hid (normN s m = normN s0 m0) ∧ (s : Int) ≤ 9223372036854775807 ∧ -9223372036854775808 ≤ m ∧ m ≤ 9223372036854775807) (fun a' _ => (intOf (a'.tmps.getD 1 undef)).toNat) rfl ?_ ?_
  · go_wp2
    go_step3
    cases s0 with
    | zero =>
      go_wp2
      simp only [Exit.jump]
      go_ret2
      exact ⟨rfl, rfl⟩
    | succ s =>
      by_cases hz : m0 % 10 = 0
      · have h1 := Lib.hid (normN_hit s m0 hz)
        have e0 : (Int.tmod m0 10 == 0) = true := by rw [tmod10, hz]; rfl
        have e1 := tdiv10 m0 hz
        go_wp2
        go_step3
        exact ⟨rfl, rfl, s, m0 / 10, _, _, _, _, _, _, _, _, _, _, _, rfl, h1.out.symm, by omega, by omega, by omega⟩
      · have h1 := Lib.hid (normN_miss s m0 hz)
        have e0 : (Int.tmod m0 10 == 0) = false := by rw [tmod10]; exact beq_eq_false_iff_ne.mpr hz
        go_wp2
        simp only [Exit.jump]
        go_ret2
        exact ⟨by rw [h1.out]; rfl, rfl⟩
  · rintro a' w' ⟨rfl, s, m, u6, u7, u8, u9, u10, u11, u12, u13, u14, u15, u16, rfl, hn, hs', c1, c2⟩
    cases s with
    | zero =>
      go_wp2
      simp only [Exit.jump]
      go_ret2
      exact ⟨by rw [← hn.out]; rfl, rfl⟩
    | succ s =>
      by_cases hz : m % 10 = 0
      · have h1 := Lib.hid (normN_hit s m hz)
        have e0 : (Int.tmod m 10 == 0) = true := by rw [tmod10, hz]; rfl
        have e1 := tdiv10 m hz
        go_wp2
        go_step3
        refine ⟨rfl, ⟨rfl, s, m / 10, _, _, _, _, _, _, _, _, _, _, _, rfl, h1.out.symm.trans hn.out, by omega, by omega, by omega⟩, ?_⟩
        simp [intOf]
      · have h1 := Lib.hid (normN_miss s m hz)
        have e0 : (Int.tmod m 10 == 0) = false := by rw [tmod10]; exact beq_eq_false_iff_ne.mpr hz
        go_wp2
        simp only [Exit.jump]
        go_ret2
        exact ⟨by rw [← hn.out, h1.out]; rfl, rfl⟩
theorem dec_Norm.calls (a0 : Int) (a1 : Int) (r1 : Int) (r2 : Int) (w : World) (h : dec_Norm.f a0 a1 = some (r1, r2)) :
    Calls Try.prog 86 #[.int .i64 a0, .int .i64 a1] w fun e w' => e = .returned (.tuple #[.int .i64 r1, .int .i64 r2]) ∧ Drawn0 w w' := by
  unfold dec_Norm.f at h
  split at h
  · rename_i hb
    have h := Option.some.inj h
    by_cases hz : a1 ≤ 0
    · rw [show a1.toNat = 0 by omega, normN] at h
      injection h with h1 h2
      subst h1; subst h2
      exact (norm_zero a0 a1 w hz).mono fun e w' ⟨he, hw⟩ => ⟨he, hw ▸ Drawn0.refl _⟩
    · obtain ⟨s, rfl⟩ := Int.eq_ofNat_of_zero_le (show 0 ≤ a1 by omega)
      rw [Int.toNat_natCast] at h
      have := norm_some s a0 w (by omega) hb.1 hb.2.1
      rw [h] at this
      exact this.mono fun e w' ⟨he, hw⟩ => ⟨he, hw ▸ Drawn0.refl _⟩
  · cases h


/-! ### dec_ten: function 114 -/
def dec_ten.l0 : Nat → Int → Int → Int → Option (Int)
  | 0, _, _, _ => none
  | k + 1, x3, x4, x5 => if x5 < x4 then (dec_ten.l0 k (wrap64 (x3 * 10)) x4 (wrap64 (x5 + 1))) else (some x3)
def dec_ten.f (k : Nat) (a0 : Int) : Option (Int) := dec_ten.l0 k 1 a0 0
theorem dec_ten.mono_l : ∀ k, (∀ y0 y1 y2, LeO (dec_ten.l0 k y0 y1 y2) (dec_ten.l0 (k + 1) y0 y1 y2))
  | 0 => fun _ _ _ r h => by simp [dec_ten.l0] at h
  | k + 1 => by
    have ih0 := dec_ten.mono_l k
    · intro y0 y1 y2
      unfold dec_ten.l0
      repeat' first
      | (with_reducible exact ih0 _ _ _)
      | (with_reducible exact LeO.refl _)
      | (with_reducible exact LeO.none _)
      | (with_reducible refine LeO.ite ?_ ?_)
      | (with_reducible refine LeO.bind ?_ (fun _ => ?_))
      | exact ih0 _ _ _
      | exact LeO.none _
      | refine LeO.ite ?_ ?_
      | refine LeO.bind ?_ (fun _ => ?_)
theorem dec_ten.mono : ∀ a0 k, LeO (dec_ten.f k a0) (dec_ten.f (k + 1) a0) := by
  intro a0 k
  have ih0 := dec_ten.mono_l k
  unfold dec_ten.f
  repeat' first
      | (with_reducible exact ih0 _ _ _)
      | (with_reducible exact LeO.refl _)
      | (with_reducible exact LeO.none _)
      | (with_reducible refine LeO.ite ?_ ?_)
      | (with_reducible refine LeO.bind ?_ (fun _ => ?_))
      | exact ih0 _ _ _
      | exact LeO.none _
      | refine LeO.ite ?_ ?_
      | refine LeO.bind ?_ (fun _ => ?_)
set_option maxHeartbeats 8000000 in
set_option maxRecDepth 100000 in
theorem dec_ten.calls (k : Nat) (a0 : Int) (r : Int) (w : World) (h : dec_ten.f k a0 = some r) :
    Calls Try.prog 114 #[.int .i64 a0] w fun e w' => e = .returned (.int .i64 r) ∧ Drawn0 w w' := by
  have H : (dec_ten.l0 k 1 a0 0) = some r := h
  clear h
  have H' := Aside0.mk H
  clear H
  go_enter Try.func114, Try.ntmps114
  go_wp2
  go_loopg [3, 5] k (fun kq v3 v5 w' => ∃ (x3_1 : Int) (x5_1 : Int), v3 = .int .i64 x3_1 ∧ v5 = .int .i64 x5_1 ∧ Aside0 (dec_ten.l0 kq x3_1 a0 x5_1 = some r) ∧ Aside0 (kq ≤ k) ∧ Drawn0 w w')
  case atStart => exact ⟨(1), (0), (by first | rfl | (simp; done) | (simp [*]; done)), (by first | rfl | (simp; done) | (simp [*]; done)), H', ⟨Nat.le_refl _⟩, by repeat (first | exact Drawn0.refl _ | apply Drawn0.step)⟩
  case round =>
    clear H'
    try clear c1
    obtain ⟨x3_1, x5_1, rfl, rfl, HA, HK1, ⟨m1, rfl⟩⟩ := hrel
    cases gk with
    | zero => exact absurd HA.out (by simp [dec_ten.l0])
    | succ k1 =>
      have H := HA.out
      clear HA
      simp only [dec_ten.l0] at H
      by_cases c2 : x5_1 < a0
      · rw [if_pos c2] at H
        have c2b0 : decide (x5_1 < a0) = true := decide_eq_true c2
        clear c2
        have H' := Aside0.mk H
        clear H
        go_wp2
        go_roundg k1
        case measure => have := HK1.out; omega
        case rel => exact ⟨(wrap64 (x3_1 * 10)), (wrap64 (x5_1 + 1)), (by first | rfl | (simp; done) | (simp [*]; done)), (by first | rfl | (simp; done) | (simp [*]; done)), H', ⟨by have := HK1.out; omega⟩, by repeat (first | exact Drawn0.refl _ | apply Drawn0.step)⟩
      · rw [if_neg c2] at H
        have c2b0 : decide (x5_1 < a0) = false := decide_eq_false c2
        clear c2
        obtain rfl := Option.some.inj H
        go_wp2
        go_ret
        exact ⟨by first | rfl | (simp; done) | (simp [*]; done), by repeat (first | exact Drawn0.refl _ | apply Drawn0.step)⟩

/-! ### dec_bound: function 115 -/
def dec_bound.f (k : Nat)  : Option (Int) := (dec_ten.f k 18).bind fun t162 => (some t162)
theorem dec_bound.mono : ∀ k, LeO (dec_bound.f k ) (dec_bound.f (k + 1) ) := by
  intro  k
  unfold dec_bound.f
  repeat' first
      | (with_reducible exact dec_ten.mono _ _)
      | (with_reducible exact LeO.refl _)
      | (with_reducible exact LeO.none _)
      | (with_reducible refine LeO.ite ?_ ?_)
      | (with_reducible refine LeO.bind ?_ (fun _ => ?_))
      | exact dec_ten.mono _ _
      | exact LeO.none _
      | refine LeO.ite ?_ ?_
      | refine LeO.bind ?_ (fun _ => ?_)
set_option maxHeartbeats 8000000 in
set_option maxRecDepth 100000 in
theorem dec_bound.calls (k : Nat)  (r : Int) (w : World) (h : dec_bound.f k  = some r) :
    Calls Try.prog 115 #[] w fun e w' => e = .returned (.int .i64 r) ∧ Drawn0 w w' := by
  have H : ((dec_ten.f k 18).bind fun t162 => (some t162)) = some r := h
  clear h
  replace H := Option.bind_eq_some_iff.mp H
  obtain ⟨t162, A10, H⟩ := H
  replace H : (some t162) = some r := H
  have A1 := Aside0.mk A10
  clear A10
  obtain rfl := Option.some.inj H
  go_enter Try.func115, Try.ntmps115
  go_wp2_with (first | ((with_reducible refine gate_callee (f := 114) rfl ?_); refine goesL_ (some 1) rfl rfl Try.func114 (by kernel_rfl) rfl #[.int .i64 18] rfl (by (try simp only [List.map_toArray, List.map_cons, List.map_nil]); first | done | rfl | (simp only [List.length_drop, List.length_take]; rfl)) ?_; (with_reducible refine (dec_ten.calls k 18 t162 _ A1.out).mono ?_); rintro e w' ⟨rfl, ⟨nd, rfl⟩⟩; refine ⟨_, rfl, ?_⟩))
  go_ret
  exact ⟨by first | rfl | (simp; done) | (simp [*]; done), by repeat (first | exact Drawn0.refl _ | apply Drawn0.step)⟩

/-! ### dec_Scaled: function 100 -/
def dec_Scaled.f (k : Nat) (a0 : Int) (a1 : Int) (a2 : Int) : Option (Int × Bool) := (dec_Norm.f a0 a1).bind fun bt163 => (if bt163.1 = 0 then (some (0, true)) else (if a2 < bt163.2 then (some (0, false)) else (if (wrap64 (a2 - bt163.2)) > 18 then (some (0, false)) else ((dec_bound.f k).bind fun t165 => ((dec_ten.f k (wrap64 (a2 - bt163.2))).bind fun t166 => (if t166 = 0 then (none) else (if (mx bt163.1 (wrap64 (-bt163.1))) > (wrap64 (Int.tdiv (wrap64 (t165 - 1)) t166)) then (some (0, false)) else ((dec_ten.f k (wrap64 (a2 - bt163.2))).bind fun t167 => (some (wrap64 (bt163.1 * t167), true))))))))))
theorem dec_Scaled.mono : ∀ a0 a1 a2 k, LeO (dec_Scaled.f k a0 a1 a2) (dec_Scaled.f (k + 1) a0 a1 a2) := by
  intro a0 a1 a2 k
  unfold dec_Scaled.f
  repeat' first
      | (with_reducible exact dec_bound.mono _)
      | (with_reducible exact dec_ten.mono _ _)
      | (with_reducible exact LeO.refl _)
      | (with_reducible exact LeO.none _)
      | (with_reducible refine LeO.ite ?_ ?_)
      | (with_reducible refine LeO.bind ?_ (fun _ => ?_))
      | exact dec_bound.mono _
      | exact dec_ten.mono _ _
      | exact LeO.none _
      | refine LeO.ite ?_ ?_
      | refine LeO.bind ?_ (fun _ => ?_)
set_option maxHeartbeats 8000000 in
set_option maxRecDepth 100000 in
theorem dec_Scaled.calls (k : Nat) (a0 : Int) (a1 : Int) (a2 : Int) (r1 : Int) (r2 : Bool) (w : World) (h : dec_Scaled.f k a0 a1 a2 = some (r1, r2)) :
    Calls Try.prog 100 #[.int .i64 a0, .int .i64 a1, .int .i64 a2] w fun e w' => e = .returned (.tuple #[.int .i64 r1, .bool r2]) ∧ Below w.heap.size w w' := by
  have HB := Aside0.mk (Below.refl w.heap.size w)
  have H : ((dec_Norm.f a0 a1).bind fun bt163 => (if bt163.1 = 0 then (some (0, true)) else (if a2 < bt163.2 then (some (0, false)) else (if (wrap64 (a2 - bt163.2)) > 18 then (some (0, false)) else ((dec_bound.f k).bind fun t165 => ((dec_ten.f k (wrap64 (a2 - bt163.2))).bind fun t166 => (if t166 = 0 then (none) else (if (mx bt163.1 (wrap64 (-bt163.1))) > (wrap64 (Int.tdiv (wrap64 (t165 - 1)) t166)) then (some (0, false)) else ((dec_ten.f k (wrap64 (a2 - bt163.2))).bind fun t167 => (some (wrap64 (bt163.1 * t167), true))))))))))) = some (r1, r2) := h
  clear h
  replace H := Option.bind_eq_some_iff.mp H
  obtain ⟨⟨t163, t164⟩, A40, H⟩ := H
  replace H : (if t163 = 0 then (some (0, true)) else (if a2 < t164 then (some (0, false)) else (if (wrap64 (a2 - t164)) > 18 then (some (0, false)) else ((dec_bound.f k).bind fun t165 => ((dec_ten.f k (wrap64 (a2 - t164))).bind fun t166 => (if t166 = 0 then (none) else (if (mx t163 (wrap64 (-t163))) > (wrap64 (Int.tdiv (wrap64 (t165 - 1)) t166)) then (some (0, false)) else ((dec_ten.f k (wrap64 (a2 - t164))).bind fun t167 => (some (wrap64 (t163 * t167), true)))))))))) = some (r1, r2) := H
  have A4 := Aside0.mk A40
  clear A40
  by_cases c5 : t163 = 0
  · rw [if_pos c5] at H
    have c5b0 : (t163 == 0) = true := beq_iff_eq.mpr c5
    have c5b1 : (t163 != 0) = false := bne_eq_false_iff_eq.mpr c5
    clear c5
    simp only [Option.some.injEq, Prod.mk.injEq] at H
    obtain ⟨rfl, rfl⟩ := H
    go_enter Try.func100, Try.ntmps100
    go_wp2_with (first | ((with_reducible refine gate_callee (f := 86) rfl ?_); refine goesL_ (some 11) rfl rfl Try.func86 (by kernel_rfl) rfl #[.int .i64 a0, .int .i64 a1] rfl (by (try simp only [List.map_toArray, List.map_cons, List.map_nil]); first | done | rfl | (simp only [List.length_drop, List.length_take]; rfl)) ?_; (with_reducible refine (dec_Norm.calls a0 a1 t163 t164 _ A4.out).mono ?_); rintro e w' ⟨rfl, ⟨nd, rfl⟩⟩; refine ⟨_, rfl, ?_⟩))
    go_ret2
    exact ⟨by first | rfl | (simp [errW_none, errW_some] <;> rfl) | (simp [*, errW_none, errW_some] <;> rfl), by repeat (first | (with_reducible first | exact HB.out | apply below_alloc | apply pw_below_drewN | apply below_drew1) | exact HB.out)⟩
  · rw [if_neg c5] at H
    have c5b0 : (t163 == 0) = false := beq_eq_false_iff_ne.mpr c5
    have c5b1 : (t163 != 0) = true := bne_iff_ne.mpr c5
    by_cases c6 : a2 < t164
    · rw [if_pos c6] at H
      have c6b0 : decide (a2 < t164) = true := decide_eq_true c6
      clear c6
      simp only [Option.some.injEq, Prod.mk.injEq] at H
      obtain ⟨rfl, rfl⟩ := H
      go_enter Try.func100, Try.ntmps100
      go_wp2_with (first | ((with_reducible refine gate_callee (f := 86) rfl ?_); refine goesL_ (some 11) rfl rfl Try.func86 (by kernel_rfl) rfl #[.int .i64 a0, .int .i64 a1] rfl (by (try simp only [List.map_toArray, List.map_cons, List.map_nil]); first | done | rfl | (simp only [List.length_drop, List.length_take]; rfl)) ?_; (with_reducible refine (dec_Norm.calls a0 a1 t163 t164 _ A4.out).mono ?_); rintro e w' ⟨rfl, ⟨nd, rfl⟩⟩; refine ⟨_, rfl, ?_⟩))
      go_ret2
      exact ⟨by first | rfl | (simp [errW_none, errW_some] <;> rfl) | (simp [*, errW_none, errW_some] <;> rfl), by repeat (first | (with_reducible first | exact HB.out | apply below_alloc | apply pw_below_drewN | apply below_drew1) | exact HB.out)⟩
    · rw [if_neg c6] at H
      have c6b0 : decide (a2 < t164) = false := decide_eq_false c6
      clear c6
      by_cases c7 : (wrap64 (a2 - t164)) > 18
      · rw [if_pos c7] at H
        have c7b0 : decide (18 < (wrap64 (a2 - t164))) = true := decide_eq_true c7
        clear c7
        simp only [Option.some.injEq, Prod.mk.injEq] at H
        obtain ⟨rfl, rfl⟩ := H
        go_enter Try.func100, Try.ntmps100
        go_wp2_with (first | ((with_reducible refine gate_callee (f := 86) rfl ?_); refine goesL_ (some 11) rfl rfl Try.func86 (by kernel_rfl) rfl #[.int .i64 a0, .int .i64 a1] rfl (by (try simp only [List.map_toArray, List.map_cons, List.map_nil]); first | done | rfl | (simp only [List.length_drop, List.length_take]; rfl)) ?_; (with_reducible refine (dec_Norm.calls a0 a1 t163 t164 _ A4.out).mono ?_); rintro e w' ⟨rfl, ⟨nd, rfl⟩⟩; refine ⟨_, rfl, ?_⟩))
        go_ret2
        exact ⟨by first | rfl | (simp [errW_none, errW_some] <;> rfl) | (simp [*, errW_none, errW_some] <;> rfl), by repeat (first | (with_reducible first | exact HB.out | apply below_alloc | apply pw_below_drewN | apply below_drew1) | exact HB.out)⟩
      · rw [if_neg c7] at H
        have c7b0 : decide (18 < (wrap64 (a2 - t164))) = false := decide_eq_false c7
        clear c7
        obtain ⟨ji8, hji8⟩ : ∃ j_ : Int, (mx t163 (wrap64 (-t163))) = j_ := ⟨_, rfl⟩
        replace H : ((dec_bound.f k).bind fun t165 => ((dec_ten.f k (wrap64 (a2 - t164))).bind fun t166 => (if t166 = 0 then (none) else (if (ji8) > (wrap64 (Int.tdiv (wrap64 (t165 - 1)) t166)) then (some (0, false)) else ((dec_ten.f k (wrap64 (a2 - t164))).bind fun t167 => (some (wrap64 (t163 * t167), true))))))) = some (r1, r2) := by first | (rw [hji8] at H; exact H) | (simp only [hji8] at H ⊢; exact H)
        (try rw [hji8] at A4)
        have hji8_ : (if t163 < (wrap64 (-t163)) then (wrap64 (-t163)) else t163) = ji8 := hji8
        replace H := Option.bind_eq_some_iff.mp H
        obtain ⟨t165, A90, H⟩ := H
        replace H : ((dec_ten.f k (wrap64 (a2 - t164))).bind fun t166 => (if t166 = 0 then (none) else (if (ji8) > (wrap64 (Int.tdiv (wrap64 (t165 - 1)) t166)) then (some (0, false)) else ((dec_ten.f k (wrap64 (a2 - t164))).bind fun t167 => (some (wrap64 (t163 * t167), true)))))) = some (r1, r2) := H
        have A9 := Aside0.mk A90
        clear A90
        replace H := Option.bind_eq_some_iff.mp H
        obtain ⟨t166, A100, H⟩ := H
        replace H : (if t166 = 0 then (none) else (if (ji8) > (wrap64 (Int.tdiv (wrap64 (t165 - 1)) t166)) then (some (0, false)) else ((dec_ten.f k (wrap64 (a2 - t164))).bind fun t167 => (some (wrap64 (t163 * t167), true))))) = some (r1, r2) := H
        have A10 := Aside0.mk A100
        clear A100
        by_cases c11 : t166 = 0
        · rw [if_pos c11] at H
          exact absurd H (by simp)
        · rw [if_neg c11] at H
          have c11b0 : (t166 == 0) = false := beq_eq_false_iff_ne.mpr c11
          have c11b1 : (t166 != 0) = true := bne_iff_ne.mpr c11
          by_cases c12 : (ji8) > (wrap64 (Int.tdiv (wrap64 (t165 - 1)) t166))
          · rw [if_pos c12] at H
            have c12b0 : decide ((wrap64 (Int.tdiv (wrap64 (t165 - 1)) t166)) < (ji8)) = true := decide_eq_true c12
            clear c12
            simp only [Option.some.injEq, Prod.mk.injEq] at H
            obtain ⟨rfl, rfl⟩ := H
            go_enter Try.func100, Try.ntmps100
            go_wp2_with (first | ((with_reducible refine gate_callee (f := 86) rfl ?_); refine goesL_ (some 11) rfl rfl Try.func86 (by kernel_rfl) rfl #[.int .i64 a0, .int .i64 a1] rfl (by (try simp only [List.map_toArray, List.map_cons, List.map_nil]); first | done | rfl | (simp only [List.length_drop, List.length_take]; rfl)) ?_; (with_reducible refine (dec_Norm.calls a0 a1 t163 t164 _ A4.out).mono ?_); rintro e w' ⟨rfl, ⟨nd, rfl⟩⟩; refine ⟨_, rfl, ?_⟩) | (go_at_call 115; (with_reducible refine (dec_bound.calls k  t165 _ A9.out).mono ?_); rintro e w' ⟨rfl, ⟨nd, rfl⟩⟩) | (go_at_call 114; (with_reducible refine (dec_ten.calls k (wrap64 (a2 - t164)) t166 _ A10.out).mono ?_); rintro e w' ⟨rfl, ⟨nd, rfl⟩⟩))
            go_ret2
            exact ⟨by first | rfl | (simp [errW_none, errW_some] <;> rfl) | (simp only [← hji8]; first | rfl | (simp [errW_none, errW_some] <;> rfl)) | (simp [*, errW_none, errW_some] <;> rfl), by repeat (first | (with_reducible first | exact HB.out | apply below_alloc | apply pw_below_drewN | apply below_drew1) | exact HB.out)⟩
          · rw [if_neg c12] at H
            have c12b0 : decide ((wrap64 (Int.tdiv (wrap64 (t165 - 1)) t166)) < (ji8)) = false := decide_eq_false c12
            clear c12
            replace H := Option.bind_eq_some_iff.mp H
            obtain ⟨t167, A130, H⟩ := H
            replace H : (some (wrap64 (t163 * t167), true)) = some (r1, r2) := H
            have A13 := Aside0.mk A130
            clear A130
            simp only [Option.some.injEq, Prod.mk.injEq] at H
            obtain ⟨rfl, rfl⟩ := H
            go_enter Try.func100, Try.ntmps100
            go_wp2_with (first | ((with_reducible refine gate_callee (f := 86) rfl ?_); refine goesL_ (some 11) rfl rfl Try.func86 (by kernel_rfl) rfl #[.int .i64 a0, .int .i64 a1] rfl (by (try simp only [List.map_toArray, List.map_cons, List.map_nil]); first | done | rfl | (simp only [List.length_drop, List.length_take]; rfl)) ?_; (with_reducible refine (dec_Norm.calls a0 a1 t163 t164 _ A4.out).mono ?_); rintro e w' ⟨rfl, ⟨nd, rfl⟩⟩; refine ⟨_, rfl, ?_⟩) | (go_at_call 115; (with_reducible refine (dec_bound.calls k  t165 _ A9.out).mono ?_); rintro e w' ⟨rfl, ⟨nd, rfl⟩⟩) | (go_at_call 114; (with_reducible refine (dec_ten.calls k (wrap64 (a2 - t164)) t166 _ A10.out).mono ?_); rintro e w' ⟨rfl, ⟨nd, rfl⟩⟩) | ((with_reducible refine gate_callee (f := 114) rfl ?_); refine goesL_ (some 43) rfl rfl Try.func114 (by kernel_rfl) rfl #[.int .i64 (wrap64 (a2 - t164))] rfl (by (try simp only [List.map_toArray, List.map_cons, List.map_nil]); first | done | rfl | (simp only [List.length_drop, List.length_take]; rfl)) ?_; (with_reducible refine (dec_ten.calls k (wrap64 (a2 - t164)) t167 _ A13.out).mono ?_); rintro e w' ⟨rfl, ⟨nd, rfl⟩⟩; refine ⟨_, rfl, ?_⟩))
            go_ret2
            exact ⟨by first | rfl | (simp [errW_none, errW_some] <;> rfl) | (simp only [← hji8]; first | rfl | (simp [errW_none, errW_some] <;> rfl)) | (simp [*, errW_none, errW_some] <;> rfl), by repeat (first | (with_reducible first | exact HB.out | apply below_alloc | apply pw_below_drewN | apply below_drew1) | exact HB.out)⟩

/-! ### act_maker_money: function 70 -/
-- 
theorem Env.kp {w W : World} {c0 c1 c2 c3 c4 c5 c6 c7 : Value} (h : Env w #[c0, c1, c2, c3, c4, c5, c6, c7] W) {ad1 ad2 : Addr} {u v : Value} (x1 : w.cell? ad1 = some u) (x2 : w.cell? ad2 = some v) : W.cell? ⟨w.heap.size, 0, none⟩ = some c0 ∧ W.cell? ⟨w.heap.size, 1, none⟩ = some c1 ∧ W.cell? ⟨w.heap.size, 2, none⟩ = some c2 ∧ W.cell? ⟨w.heap.size, 3, none⟩ = some c3 ∧ W.cell? ⟨w.heap.size, 4, none⟩ = some c4 ∧ W.cell? ⟨w.heap.size, 5, none⟩ = some c5 ∧ W.cell? ⟨w.heap.size, 6, none⟩ = some c6 ∧ W.cell? ⟨w.heap.size, 7, none⟩ = some c7 ∧ W.cell? ad1 = some u ∧ W.cell? ad2 = some v :=
  ⟨h.k8.1, h.k8.2.1, h.k8.2.2.1, h.k8.2.2.2.1, h.k8.2.2.2.2.1, h.k8.2.2.2.2.2.1, h.k8.2.2.2.2.2.2.1, h.k8.2.2.2.2.2.2.2, pw_cell_below h.below x1, pw_cell_below h.below x2⟩
theorem Env.kps {w W : World} {c0 c1 c2 c3 c4 c5 c6 c7 : Value} (h : Env w #[c0, c1, c2, c3, c4, c5, c6, c7] W) {ad1 ad2 : Addr} {u v p q : Value} (x1 : w.cell? ad1 = some u) (x2 : w.cell? ad2 = some v) : let W' := (W.setCell ⟨w.heap.size + 1, 0, none⟩ p).setCell ⟨w.heap.size + 1, 1, none⟩ q; W'.cell? ⟨w.heap.size, 0, none⟩ = some c0 ∧ W'.cell? ⟨w.heap.size, 1, none⟩ = some c1 ∧ W'.cell? ⟨w.heap.size, 2, none⟩ = some c2 ∧ W'.cell? ⟨w.heap.size, 3, none⟩ = some c3 ∧ W'.cell? ⟨w.heap.size, 4, none⟩ = some c4 ∧ W'.cell? ⟨w.heap.size, 5, none⟩ = some c5 ∧ W'.cell? ⟨w.heap.size, 6, none⟩ = some c6 ∧ W'.cell? ⟨w.heap.size, 7, none⟩ = some c7 ∧ W'.cell? ad1 = some u ∧ W'.cell? ad2 = some v := by
  intro W'
  have kb : W'.heap[w.heap.size]? = some (.cells #[c0, c1, c2, c3, c4, c5, c6, c7] 62 (0, 0)) := blk_far (blk_far h.kb (by simp) p) (by simp) q
  have hb : Below w.heap.size w W' := below_set (below_set h.below (by omega)) (by omega)
  exact ⟨(blk_cell kb 0).trans rfl, (blk_cell kb 1).trans rfl, (blk_cell kb 2).trans rfl, (blk_cell kb 3).trans rfl, (blk_cell kb 4).trans rfl, (blk_cell kb 5).trans rfl, (blk_cell kb 6).trans rfl, (blk_cell kb 7).trans rfl, pw_cell_below hb x1, pw_cell_below hb x2⟩
set_option maxHeartbeats 2000000 in
set_option maxRecDepth 100000 in
theorem money_ok (op : Int) (A : Option Addr) (n c : Nat) (y m d h i s : Int) (v r : Int) (ad : Addr) (p q : Int) (n1 c1 : Nat) (hn1 : 1 < n1) (w : World) (hv : 0 ≤ v) (x0 : w.cell? ad = some (.int .i64 p)) (x1 : w.cell? ⟨ad.block, ad.off + 1, none⟩ = some (.int .i64 q))
    (h1 : ∀ W, Below w.heap.size w W → Calls Try.prog 93 #[.agg #[.int .i64 op, .slice A n c, .int .i64 y, .int .i64 m, .int .i64 d, .int .i64 h, .int .i64 i, .int .i64 s], .int .i64 0] W fun e w' => e = .returned (.int .i64 v) ∧ Below W.heap.size W w')
    (h2 : ∀ W, Below w.heap.size w W → Calls Try.prog 95 #[.agg #[.int .i64 op, .slice A n c, .int .i64 y, .int .i64 m, .int .i64 d, .int .i64 h, .int .i64 i, .int .i64 s], .int .i64 1, .int .i64 7] W fun e w' => e = .returned (.slice (some ad) n1 c1) ∧ Below W.heap.size W w')
    (h3 : ∀ W, Calls Try.prog 100 #[.int .i64 p, .int .i64 q, .int .i64 (Int.tmod v 10)] W fun e' w' => e' = .returned (.tuple #[.int .i64 r, .bool true]) ∧ Below W.heap.size W w') :
    Calls Try.prog 70 #[.agg #[.int .i64 op, .slice A n c, .int .i64 y, .int .i64 m, .int .i64 d, .int .i64 h, .int .i64 i, .int .i64 s]] w (Makes w 8 [v, r]) := by
  have g1 := Aside0.mk h1
  have g2 := Aside0.mk h2
  have g3 := Aside0.mk h3
  have dv := decide_eq_true hv
  clear h1 h2 h3 hv
  have X0 := Aside0.mk x0
  have X1 := Aside0.mk x1
  have e1 : decide (1 < n1) = true := decide_eq_true hn1
  have e0 : decide (0 < n1) = true := decide_eq_true (by omega)
  have q1 : ((1 : Int) < (n1 : Int)) = True := eq_true (by omega)
  have q0 : ((0 : Int) < (n1 : Int)) = True := eq_true (by omega)
  have qi1 : (1 < n1) = True := eq_true hn1
  have qi0 : (0 < n1) = True := eq_true (by omega)
  clear x0 x1 hn1
  have HE := Aside0.mk (Env.start w #[.int .i64 op, .slice A n c, .int .i64 y, .int .i64 m, .int .i64 d, .int .i64 h, .int .i64 i, .int .i64 s])
  go_enter Try.func70, Try.ntmps70
  go_wp2_with fail
  go_region_held3 (fun w' => w'.cell? ⟨w.heap.size, 0, none⟩ = some (.int .i64 op) ∧ w'.cell? ⟨w.heap.size, 1, none⟩ = some (.slice A n c) ∧ w'.cell? ⟨w.heap.size, 2, none⟩ = some (.int .i64 y) ∧ w'.cell? ⟨w.heap.size, 3, none⟩ = some (.int .i64 m) ∧ w'.cell? ⟨w.heap.size, 4, none⟩ = some (.int .i64 d) ∧ w'.cell? ⟨w.heap.size, 5, none⟩ = some (.int .i64 h) ∧ w'.cell? ⟨w.heap.size, 6, none⟩ = some (.int .i64 i) ∧ w'.cell? ⟨w.heap.size, 7, none⟩ = some (.int .i64 s) ∧ w'.cell? ad = some (.int .i64 p) ∧ w'.cell? ⟨ad.block, ad.off + 1, none⟩ = some (.int .i64 q)) ((first | exact Env.kps HE.out X0.out X1.out | (go_keep; done) | exact Env.kp (by repeat (first | exact HE.out | apply Env.alloc | apply Env.drewN | apply Env.drew)) X0.out X1.out)) (first | (go_at_call 93; (with_reducible refine (g1.out _ ?_).mono ?_); (· exact Env.below (kc := #[.int .i64 op, .slice A n c, .int .i64 y, .int .i64 m, .int .i64 d, .int .i64 h, .int .i64 i, .int .i64 s]) (by repeat (first | exact HE.out | apply Env.alloc | apply Env.drewN | apply Env.drew))); rintro e w1 ⟨rfl, hb⟩; have HEn := Aside0.mk (Env.then_ (by repeat (first | exact HE.out | apply Env.alloc | apply Env.drewN | apply Env.drew)) hb); clear HE; have HE := HEn; clear HEn; clear hb) | (go_at_call 95; (with_reducible refine (g2.out _ ?_).mono ?_); (· exact Env.below (kc := #[.int .i64 op, .slice A n c, .int .i64 y, .int .i64 m, .int .i64 d, .int .i64 h, .int .i64 i, .int .i64 s]) (by repeat (first | exact HE.out | apply Env.alloc | apply Env.drewN | apply Env.drew))); rintro e w2 ⟨rfl, hb⟩; have HEn := Aside0.mk (Env.then_ (by repeat (first | exact HE.out | apply Env.alloc | apply Env.drewN | apply Env.drew)) hb); clear HE; have HE := HEn; clear HEn; clear hb))
  obtain ⟨k0, k1, k2, k3, k4, k5, k6, k7, y0, y1⟩ := Env.kp HE.out X0.out X1.out
  go_wp2_with (first | (go_at_call 39; (with_reducible refine calls_any (Env w #[.int .i64 op, .slice A n c, .int .i64 y, .int .i64 m, .int .i64 d, .int .i64 h, .int .i64 i, .int .i64 s]) (by repeat (first | exact HE.out | apply Env.alloc | apply Env.drewN | apply Env.drew)) ?_); intro Wm hE; refine (act_must.calls true _ _ rfl).mono ?_; rintro e w3 ⟨rfl, ⟨nd, rfl⟩⟩; have HEn := Aside0.mk (Env.drewN hE nd); clear HE hE; generalize Wm.drewN nd = wm at *; have HE := HEn; clear HEn; obtain ⟨k0, k1, k2, k3, k4, k5, k6, k7, y0, y1⟩ := Env.kp HE.out X0.out X1.out))
  go_region_held3 (fun w' => w'.cell? ⟨w.heap.size, 0, none⟩ = some (.int .i64 op) ∧ w'.cell? ⟨w.heap.size, 1, none⟩ = some (.slice A n c) ∧ w'.cell? ⟨w.heap.size, 2, none⟩ = some (.int .i64 y) ∧ w'.cell? ⟨w.heap.size, 3, none⟩ = some (.int .i64 m) ∧ w'.cell? ⟨w.heap.size, 4, none⟩ = some (.int .i64 d) ∧ w'.cell? ⟨w.heap.size, 5, none⟩ = some (.int .i64 h) ∧ w'.cell? ⟨w.heap.size, 6, none⟩ = some (.int .i64 i) ∧ w'.cell? ⟨w.heap.size, 7, none⟩ = some (.int .i64 s) ∧ w'.cell? ad = some (.int .i64 p) ∧ w'.cell? ⟨ad.block, ad.off + 1, none⟩ = some (.int .i64 q)) ((first | exact Env.kps HE.out X0.out X1.out | (go_keep; done) | exact Env.kp (by repeat (first | exact HE.out | apply Env.alloc | apply Env.drewN | apply Env.drew)) X0.out X1.out)) (first | (go_at_call 100; (with_reducible refine (g3.out _).mono ?_); rintro e w5 ⟨rfl, hb⟩; have HEn := Aside0.mk (Env.then_ (by repeat (first | exact HE.out | apply Env.alloc | apply Env.drewN | apply Env.drew)) hb); clear HE; have HE := HEn; clear HEn; clear hb))
  obtain ⟨k0, k1, k2, k3, k4, k5, k6, k7⟩ := Env.k8 HE.out
  go_wp2_with (first | (go_at_call 39; (with_reducible refine calls_any (Env w #[.int .i64 op, .slice A n c, .int .i64 y, .int .i64 m, .int .i64 d, .int .i64 h, .int .i64 i, .int .i64 s]) (by repeat (first | exact HE.out | apply Env.alloc | apply Env.drewN | apply Env.drew)) ?_); intro Wm hE; refine (act_must.calls true _ _ rfl).mono ?_; rintro e w3 ⟨rfl, ⟨nd, rfl⟩⟩; have HEn := Aside0.mk (Env.drewN hE nd); clear HE hE; generalize Wm.drewN nd = wm at *; have HE := HEn; clear HEn; obtain ⟨k0, k1, k2, k3, k4, k5, k6, k7⟩ := Env.k8 HE.out) | (go_at_call 40; refine (value_ok 8 _ _ [v, r] _ (C_new _ [v, r] (by simp)) (Nat.le_refl _) (by simp)).mono ?_; rintro e w8 ⟨A3, c3, rfl, hc3, hR, hb3⟩; have HV := Aside0.mk HE.out; have HR := Aside0.mk hR; have HB3 := Aside0.mk hb3; have HEn := Aside0.mk ((HV.out.alloc _).then_ hb3); clear HE hR hb3; obtain ⟨z0, z1, z2, z3⟩ := Env.r2 HEn.out))
  refine bodyPost_ret (v := .agg #[.int .i64 8, .slice A3 _ c3]) (by simp [results, Try.results70, go_sem, z0, z1, z2, z3]) rfl (makes_end HV.out HB3.out hc3 HR.out _ _)
set_option maxHeartbeats 2000000 in
set_option maxRecDepth 100000 in
theorem money_no (op : Int) (A : Option Addr) (n c : Nat) (y m d h i s : Int) (v r : Int) (ad : Addr) (p q : Int) (n1 c1 : Nat) (hn1 : 1 < n1) (w : World) (hv : 0 ≤ v) (x0 : w.cell? ad = some (.int .i64 p)) (x1 : w.cell? ⟨ad.block, ad.off + 1, none⟩ = some (.int .i64 q))
    (h1 : ∀ W, Below w.heap.size w W → Calls Try.prog 93 #[.agg #[.int .i64 op, .slice A n c, .int .i64 y, .int .i64 m, .int .i64 d, .int .i64 h, .int .i64 i, .int .i64 s], .int .i64 0] W fun e w' => e = .returned (.int .i64 v) ∧ Below W.heap.size W w')
    (h2 : ∀ W, Below w.heap.size w W → Calls Try.prog 95 #[.agg #[.int .i64 op, .slice A n c, .int .i64 y, .int .i64 m, .int .i64 d, .int .i64 h, .int .i64 i, .int .i64 s], .int .i64 1, .int .i64 7] W fun e w' => e = .returned (.slice (some ad) n1 c1) ∧ Below W.heap.size W w')
    (h3 : ∀ W, Calls Try.prog 100 #[.int .i64 p, .int .i64 q, .int .i64 (Int.tmod v 10)] W fun e' w' => e' = .returned (.tuple #[.int .i64 r, .bool false]) ∧ Below W.heap.size W w') :
    Calls Try.prog 70 #[.agg #[.int .i64 op, .slice A n c, .int .i64 y, .int .i64 m, .int .i64 d, .int .i64 h, .int .i64 i, .int .i64 s]] w (Dies w) := by
  have g1 := Aside0.mk h1
  have g2 := Aside0.mk h2
  have g3 := Aside0.mk h3
  have dv := decide_eq_true hv
  clear h1 h2 h3 hv
  have X0 := Aside0.mk x0
  have X1 := Aside0.mk x1
  have e1 : decide (1 < n1) = true := decide_eq_true hn1
  have e0 : decide (0 < n1) = true := decide_eq_true (by omega)
  have q1 : ((1 : Int) < (n1 : Int)) = True := eq_true (by omega)
  have q0 : ((0 : Int) < (n1 : Int)) = True := eq_true (by omega)
  have qi1 : (1 < n1) = True := eq_true hn1
  have qi0 : (0 < n1) = True := eq_true (by omega)
  clear x0 x1 hn1
  have HE := Aside0.mk (Env.start w #[.int .i64 op, .slice A n c, .int .i64 y, .int .i64 m, .int .i64 d, .int .i64 h, .int .i64 i, .int .i64 s])
  go_enter Try.func70, Try.ntmps70
  go_wp2_with fail
  go_region_held3 (fun w' => w'.cell? ⟨w.heap.size, 0, none⟩ = some (.int .i64 op) ∧ w'.cell? ⟨w.heap.size, 1, none⟩ = some (.slice A n c) ∧ w'.cell? ⟨w.heap.size, 2, none⟩ = some (.int .i64 y) ∧ w'.cell? ⟨w.heap.size, 3, none⟩ = some (.int .i64 m) ∧ w'.cell? ⟨w.heap.size, 4, none⟩ = some (.int .i64 d) ∧ w'.cell? ⟨w.heap.size, 5, none⟩ = some (.int .i64 h) ∧ w'.cell? ⟨w.heap.size, 6, none⟩ = some (.int .i64 i) ∧ w'.cell? ⟨w.heap.size, 7, none⟩ = some (.int .i64 s) ∧ w'.cell? ad = some (.int .i64 p) ∧ w'.cell? ⟨ad.block, ad.off + 1, none⟩ = some (.int .i64 q)) ((first | exact Env.kps HE.out X0.out X1.out | (go_keep; done) | exact Env.kp (by repeat (first | exact HE.out | apply Env.alloc | apply Env.drewN | apply Env.drew)) X0.out X1.out)) (first | (go_at_call 93; (with_reducible refine (g1.out _ ?_).mono ?_); (· exact Env.below (kc := #[.int .i64 op, .slice A n c, .int .i64 y, .int .i64 m, .int .i64 d, .int .i64 h, .int .i64 i, .int .i64 s]) (by repeat (first | exact HE.out | apply Env.alloc | apply Env.drewN | apply Env.drew))); rintro e w1 ⟨rfl, hb⟩; have HEn := Aside0.mk (Env.then_ (by repeat (first | exact HE.out | apply Env.alloc | apply Env.drewN | apply Env.drew)) hb); clear HE; have HE := HEn; clear HEn; clear hb) | (go_at_call 95; (with_reducible refine (g2.out _ ?_).mono ?_); (· exact Env.below (kc := #[.int .i64 op, .slice A n c, .int .i64 y, .int .i64 m, .int .i64 d, .int .i64 h, .int .i64 i, .int .i64 s]) (by repeat (first | exact HE.out | apply Env.alloc | apply Env.drewN | apply Env.drew))); rintro e w2 ⟨rfl, hb⟩; have HEn := Aside0.mk (Env.then_ (by repeat (first | exact HE.out | apply Env.alloc | apply Env.drewN | apply Env.drew)) hb); clear HE; have HE := HEn; clear HEn; clear hb))
  obtain ⟨k0, k1, k2, k3, k4, k5, k6, k7, y0, y1⟩ := Env.kp HE.out X0.out X1.out
  go_wp2_with (first | (go_at_call 39; (with_reducible refine calls_any (Env w #[.int .i64 op, .slice A n c, .int .i64 y, .int .i64 m, .int .i64 d, .int .i64 h, .int .i64 i, .int .i64 s]) (by repeat (first | exact HE.out | apply Env.alloc | apply Env.drewN | apply Env.drew)) ?_); intro Wm hE; refine (act_must.calls true _ _ rfl).mono ?_; rintro e w3 ⟨rfl, ⟨nd, rfl⟩⟩; have HEn := Aside0.mk (Env.drewN hE nd); clear HE hE; generalize Wm.drewN nd = wm at *; have HE := HEn; clear HEn; obtain ⟨k0, k1, k2, k3, k4, k5, k6, k7, y0, y1⟩ := Env.kp HE.out X0.out X1.out))
  go_region_held3 (fun w' => w'.cell? ⟨w.heap.size, 0, none⟩ = some (.int .i64 op) ∧ w'.cell? ⟨w.heap.size, 1, none⟩ = some (.slice A n c) ∧ w'.cell? ⟨w.heap.size, 2, none⟩ = some (.int .i64 y) ∧ w'.cell? ⟨w.heap.size, 3, none⟩ = some (.int .i64 m) ∧ w'.cell? ⟨w.heap.size, 4, none⟩ = some (.int .i64 d) ∧ w'.cell? ⟨w.heap.size, 5, none⟩ = some (.int .i64 h) ∧ w'.cell? ⟨w.heap.size, 6, none⟩ = some (.int .i64 i) ∧ w'.cell? ⟨w.heap.size, 7, none⟩ = some (.int .i64 s) ∧ w'.cell? ad = some (.int .i64 p) ∧ w'.cell? ⟨ad.block, ad.off + 1, none⟩ = some (.int .i64 q)) ((first | exact Env.kps HE.out X0.out X1.out | (go_keep; done) | exact Env.kp (by repeat (first | exact HE.out | apply Env.alloc | apply Env.drewN | apply Env.drew)) X0.out X1.out)) (first | (go_at_call 100; (with_reducible refine (g3.out _).mono ?_); rintro e w5 ⟨rfl, hb⟩; have HEn := Aside0.mk (Env.then_ (by repeat (first | exact HE.out | apply Env.alloc | apply Env.drewN | apply Env.drew)) hb); clear HE; have HE := HEn; clear HEn; clear hb))
  obtain ⟨k0, k1, k2, k3, k4, k5, k6, k7⟩ := Env.k8 HE.out
  go_wp2_with (first | (go_at_call 39; (with_reducible refine calls_any (Env w #[.int .i64 op, .slice A n c, .int .i64 y, .int .i64 m, .int .i64 d, .int .i64 h, .int .i64 i, .int .i64 s]) (by repeat (first | exact HE.out | apply Env.alloc | apply Env.drewN | apply Env.drew)) ?_); intro W6 hE; refine (must_dies _ _).mono ?_; rintro e w6 ⟨⟨u, pv, rfl⟩, hb⟩; have HB6 := Aside0.mk hE; have HB7 := Aside0.mk hb; clear hE hb))
  exact dies_end rfl HB6.out.below HB7.out
def act_maker_money.f (k : Nat) (a0_0 : Int) (l0_1 : List (S27)) (a0_2 a0_3 a0_4 a0_5 a0_6 a0_7 : Int) : Option (Option (Int × List Int)) :=
  (act_maker_word.f a0_0 l0_1 a0_2 a0_3 a0_4 a0_5 a0_6 a0_7 0).bind fun v => if 0 ≤ v ∧ 2 ≤ l0_1.length ∧ (rd_T27 l0_1 1).f0 = 7 ∧ 2 ≤ (rd_T27 l0_1 1).f1.length then (dec_Scaled.f k (rd (rd_T27 l0_1 1).f1 0) (rd (rd_T27 l0_1 1).f1 1) (Int.tmod v 10)).bind fun t => if t.2 = true then some (some (8, [v, t.1])) else some none
    else none
theorem act_maker_money.mono : ∀ a0 a1 a2 a3 a4 a5 a6 a7 k, LeO (act_maker_money.f k a0 a1 a2 a3 a4 a5 a6 a7) (act_maker_money.f (k + 1) a0 a1 a2 a3 a4 a5 a6 a7) := by
  intro a0 a1 a2 a3 a4 a5 a6 a7 k
  unfold act_maker_money.f
  exact LeO.bind (LeO.refl _) (fun _ => LeO.ite (LeO.bind (dec_Scaled.mono _ _ _ _) (fun _ => LeO.refl _)) (LeO.refl _))
theorem act_maker_money.calls (k : Nat) (a0_0 : Int) (A0_1 : Option Addr) (c0_1 : Nat) (l0_1 : List (S27)) (a0_2 a0_3 a0_4 a0_5 a0_6 a0_7 : Int) (r1 : Int) (r2 : List Int) (w : World) (hr0_1 : Kd.C k27 w A0_1 l0_1.length l0_1) (hc0_1 : l0_1.length ≤ c0_1) (h : act_maker_money.f k a0_0 l0_1 a0_2 a0_3 a0_4 a0_5 a0_6 a0_7 = some (some (r1, r2))) :
    Calls Try.prog 70 #[.agg #[.int .i64 a0_0, .slice A0_1 l0_1.length c0_1, .int .i64 a0_2, .int .i64 a0_3, .int .i64 a0_4, .int .i64 a0_5, .int .i64 a0_6, .int .i64 a0_7]] w (Makes w r1 r2) := by
  unfold act_maker_money.f at h
  obtain ⟨v, hv, h⟩ := Option.bind_eq_some_iff.mp h
  split at h
  case isFalse => cases h
  case isTrue hc =>
    obtain ⟨t, ht, h⟩ := Option.bind_eq_some_iff.mp h
    obtain ⟨t1, t2⟩ := t
    have hc1 := hc.2.1
    have hc2 := hc.2.2.2
    obtain ⟨ad, A1, c1, hA, x0, x1, _, C1⟩ := at_T27 hr0_1 1 (by omega) (by omega)
    obtain ⟨b1, rfl, z0⟩ := Kd.at_int C1 0 (by omega) (by omega)
    obtain ⟨b2, e2, z1⟩ := Kd.at_int C1 1 (by omega) (by omega)
    obtain rfl := Option.some.inj e2
    have y0 : w.cell? b1 = some (.int .i64 (rd (rd_T27 l0_1 1).f1 0)) := by simpa [Addr.add] using z0
    have y1 : w.cell? ⟨b1.block, b1.off + 1, none⟩ = some (.int .i64 (rd (rd_T27 l0_1 1).f1 1)) := by simpa [Addr.add] using z1
    have ho := fun W (hB : Below w.heap.size w W) => of_at a0_0 A0_1 c0_1 l0_1 a0_2 a0_3 a0_4 a0_5 a0_6 a0_7 1 7 W ad (some b1) c1 hA (pw_cell_below hB x0) (pw_cell_below hB x1) (by omega) (by omega) hc.2.2.1
    split at h
    case isFalse => cases h
    case isTrue hb =>
      obtain rfl : t2 = true := hb
      have h := Option.some.inj (Option.some.inj h)
      simp only [Prod.mk.injEq] at h
      obtain ⟨rfl, rfl⟩ := h
      exact money_ok a0_0 A0_1 l0_1.length c0_1 a0_2 a0_3 a0_4 a0_5 a0_6 a0_7 v t1 b1 _ _ _ c1 (by omega) w hc.1 y0 y1 (fun W hB => act_maker_word.calls a0_0 A0_1 c0_1 l0_1 a0_2 a0_3 a0_4 a0_5 a0_6 a0_7 0 v W (Kd.C_below hr0_1 hB) hc0_1 hv) ho (fun W => dec_Scaled.calls k _ _ _ t1 true W ht)
theorem act_maker_money.dies (k : Nat) (a0_0 : Int) (A0_1 : Option Addr) (c0_1 : Nat) (l0_1 : List (S27)) (a0_2 a0_3 a0_4 a0_5 a0_6 a0_7 : Int) (w : World) (hr0_1 : Kd.C k27 w A0_1 l0_1.length l0_1) (hc0_1 : l0_1.length ≤ c0_1) (h : act_maker_money.f k a0_0 l0_1 a0_2 a0_3 a0_4 a0_5 a0_6 a0_7 = some (none)) :
    Calls Try.prog 70 #[.agg #[.int .i64 a0_0, .slice A0_1 l0_1.length c0_1, .int .i64 a0_2, .int .i64 a0_3, .int .i64 a0_4, .int .i64 a0_5, .int .i64 a0_6, .int .i64 a0_7]] w (Dies w) := by
  unfold act_maker_money.f at h
  obtain ⟨v, hv, h⟩ := Option.bind_eq_some_iff.mp h
  split at h
  case isFalse => cases h
  case isTrue hc =>
    obtain ⟨t, ht, h⟩ := Option.bind_eq_some_iff.mp h
    obtain ⟨t1, t2⟩ := t
    have hc1 := hc.2.1
    have hc2 := hc.2.2.2
    obtain ⟨ad, A1, c1, hA, x0, x1, _, C1⟩ := at_T27 hr0_1 1 (by omega) (by omega)
    obtain ⟨b1, rfl, z0⟩ := Kd.at_int C1 0 (by omega) (by omega)
    obtain ⟨b2, e2, z1⟩ := Kd.at_int C1 1 (by omega) (by omega)
    obtain rfl := Option.some.inj e2
    have y0 : w.cell? b1 = some (.int .i64 (rd (rd_T27 l0_1 1).f1 0)) := by simpa [Addr.add] using z0
    have y1 : w.cell? ⟨b1.block, b1.off + 1, none⟩ = some (.int .i64 (rd (rd_T27 l0_1 1).f1 1)) := by simpa [Addr.add] using z1
    have ho := fun W (hB : Below w.heap.size w W) => of_at a0_0 A0_1 c0_1 l0_1 a0_2 a0_3 a0_4 a0_5 a0_6 a0_7 1 7 W ad (some b1) c1 hA (pw_cell_below hB x0) (pw_cell_below hB x1) (by omega) (by omega) hc.2.2.1
    split at h
    case isTrue => cases h
    case isFalse hb =>
      obtain rfl : t2 = false := Bool.eq_false_iff.mpr hb
      exact money_no a0_0 A0_1 l0_1.length c0_1 a0_2 a0_3 a0_4 a0_5 a0_6 a0_7 v t1 b1 _ _ _ c1 (by omega) w hc.1 y0 y1 (fun W hB => act_maker_word.calls a0_0 A0_1 c0_1 l0_1 a0_2 a0_3 a0_4 a0_5 a0_6 a0_7 0 v W (Kd.C_below hr0_1 hB) hc0_1 hv) ho (fun W => dec_Scaled.calls k _ _ _ t1 false W ht)


end Go.Proofs.Ytldfljlklfhjkaa.PE
