/- Each call of a function that is printed here answers what its plain Lean function answers; written by a program of this session (wip/myprint.py) over the kit's print. Conditions: that the plain function answers. -/
import Derived.Test.YtldfljlklfhjkaaPEx9
namespace Go.Proofs.Ytldfljlklfhjkaa.PE
open Go.RowKit Go.Proofs.YtldfljlklfhjkaaW.PrintWords Go.Proofs.YtldfljlklfhjkaaW.PrintLast Go.Proofs.YtldfljlklfhjkaaW.PrintMore
attribute [local go_sem] max2_int min2_int max_two min_two max_three min_three max_four min_four   -- for this text's walks alone
set_option linter.unusedVariables false
set_option linter.unusedSimpArgs false

/-! ### interlocutorref1_floor: function 53 -/
def interlocutorref1_floor.f (a0 : Int) (a1 : Int) : Option (Int) := if a1 = 0 then (none) else (if (Int.tmod a0 a1) < 0 then (some (wrap64 ((wrap64 (Int.tdiv a0 a1)) - 1))) else (some (wrap64 (Int.tdiv a0 a1))))
set_option maxHeartbeats 8000000 in
set_option maxRecDepth 100000 in
theorem interlocutorref1_floor.calls (a0 : Int) (a1 : Int) (r : Int) (w : World) (h : interlocutorref1_floor.f a0 a1 = some r) :
    Calls Try.prog 53 #[.int .i64 a0, .int .i64 a1] w fun e w' => e = .returned (.int .i64 r) ∧ Drawn0 w w' := by
  have H : (if a1 = 0 then (none) else (if (Int.tmod a0 a1) < 0 then (some (wrap64 ((wrap64 (Int.tdiv a0 a1)) - 1))) else (some (wrap64 (Int.tdiv a0 a1))))) = some r := h
  clear h
  by_cases c3 : a1 = 0
  · rw [if_pos c3] at H
    exact absurd H (by simp)
  · rw [if_neg c3] at H
    have c3b0 : (a1 == 0) = false := beq_eq_false_iff_ne.mpr c3
    have c3b1 : (a1 != 0) = true := bne_iff_ne.mpr c3
    by_cases c4 : (Int.tmod a0 a1) < 0
    · rw [if_pos c4] at H
      have c4b0 : decide ((Int.tmod a0 a1) < 0) = true := decide_eq_true c4
      clear c4
      obtain rfl := Option.some.inj H
      go_enter Try.func53, Try.ntmps53
      go_wp2
      go_ret
      exact ⟨by first | rfl | (simp; done) | (simp [*]; done), by repeat (first | exact Drawn0.refl _ | apply Drawn0.step)⟩
    · rw [if_neg c4] at H
      have c4b0 : decide ((Int.tmod a0 a1) < 0) = false := decide_eq_false c4
      clear c4
      obtain rfl := Option.some.inj H
      go_enter Try.func53, Try.ntmps53
      go_wp2
      go_ret
      exact ⟨by first | rfl | (simp; done) | (simp [*]; done), by repeat (first | exact Drawn0.refl _ | apply Drawn0.step)⟩

/-! ### interlocutorref1_Days: function 31 -/
def interlocutorref1_Days.f (a0 : Int) (a1 : Int) (a2 : Int) : Option (Int) := if a1 ≤ 2 then ((interlocutorref1_floor.f (wrap64 (a0 - 1)) 400).bind fun t255 => (some (wrap64 ((wrap64 ((wrap64 ((wrap64 ((wrap64 ((wrap64 (146097 * t255)) + (wrap64 (365 * (wrap64 ((wrap64 (a0 - 1)) - (wrap64 (400 * t255)))))))) + (wrap64 (Int.tdiv (wrap64 ((wrap64 (a0 - 1)) - (wrap64 (400 * t255)))) 4)))) - (wrap64 (Int.tdiv (wrap64 ((wrap64 (a0 - 1)) - (wrap64 (400 * t255)))) 100)))) + (wrap64 ((wrap64 ((wrap64 (Int.tdiv (wrap64 ((wrap64 (153 * (Int.tmod (wrap64 (a1 + 9)) 12))) + 2)) 5)) + a2)) - 1)))) - 719468)))) else ((interlocutorref1_floor.f a0 400).bind fun t256 => (some (wrap64 ((wrap64 ((wrap64 ((wrap64 ((wrap64 ((wrap64 (146097 * t256)) + (wrap64 (365 * (wrap64 (a0 - (wrap64 (400 * t256)))))))) + (wrap64 (Int.tdiv (wrap64 (a0 - (wrap64 (400 * t256)))) 4)))) - (wrap64 (Int.tdiv (wrap64 (a0 - (wrap64 (400 * t256)))) 100)))) + (wrap64 ((wrap64 ((wrap64 (Int.tdiv (wrap64 ((wrap64 (153 * (Int.tmod (wrap64 (a1 + 9)) 12))) + 2)) 5)) + a2)) - 1)))) - 719468))))
set_option maxHeartbeats 8000000 in
set_option maxRecDepth 100000 in
theorem interlocutorref1_Days.calls (a0 : Int) (a1 : Int) (a2 : Int) (r : Int) (w : World) (h : interlocutorref1_Days.f a0 a1 a2 = some r) :
    Calls Try.prog 31 #[.int .i64 a0, .int .i64 a1, .int .i64 a2] w fun e w' => e = .returned (.int .i64 r) ∧ Drawn0 w w' := by
  have H : (if a1 ≤ 2 then ((interlocutorref1_floor.f (wrap64 (a0 - 1)) 400).bind fun t255 => (some (wrap64 ((wrap64 ((wrap64 ((wrap64 ((wrap64 ((wrap64 (146097 * t255)) + (wrap64 (365 * (wrap64 ((wrap64 (a0 - 1)) - (wrap64 (400 * t255)))))))) + (wrap64 (Int.tdiv (wrap64 ((wrap64 (a0 - 1)) - (wrap64 (400 * t255)))) 4)))) - (wrap64 (Int.tdiv (wrap64 ((wrap64 (a0 - 1)) - (wrap64 (400 * t255)))) 100)))) + (wrap64 ((wrap64 ((wrap64 (Int.tdiv (wrap64 ((wrap64 (153 * (Int.tmod (wrap64 (a1 + 9)) 12))) + 2)) 5)) + a2)) - 1)))) - 719468)))) else ((interlocutorref1_floor.f a0 400).bind fun t256 => (some (wrap64 ((wrap64 ((wrap64 ((wrap64 ((wrap64 ((wrap64 (146097 * t256)) + (wrap64 (365 * (wrap64 (a0 - (wrap64 (400 * t256)))))))) + (wrap64 (Int.tdiv (wrap64 (a0 - (wrap64 (400 * t256)))) 4)))) - (wrap64 (Int.tdiv (wrap64 (a0 - (wrap64 (400 * t256)))) 100)))) + (wrap64 ((wrap64 ((wrap64 (Int.tdiv (wrap64 ((wrap64 (153 * (Int.tmod (wrap64 (a1 + 9)) 12))) + 2)) 5)) + a2)) - 1)))) - 719468))))) = some r := h
  clear h
  by_cases c4 : a1 ≤ 2
  · rw [if_pos c4] at H
    have c4b0 : decide (a1 ≤ 2) = true := decide_eq_true c4
    clear c4
    replace H := Option.bind_eq_some_iff.mp H
    obtain ⟨t255, A50, H⟩ := H
    replace H : (some (wrap64 ((wrap64 ((wrap64 ((wrap64 ((wrap64 ((wrap64 (146097 * t255)) + (wrap64 (365 * (wrap64 ((wrap64 (a0 - 1)) - (wrap64 (400 * t255)))))))) + (wrap64 (Int.tdiv (wrap64 ((wrap64 (a0 - 1)) - (wrap64 (400 * t255)))) 4)))) - (wrap64 (Int.tdiv (wrap64 ((wrap64 (a0 - 1)) - (wrap64 (400 * t255)))) 100)))) + (wrap64 ((wrap64 ((wrap64 (Int.tdiv (wrap64 ((wrap64 (153 * (Int.tmod (wrap64 (a1 + 9)) 12))) + 2)) 5)) + a2)) - 1)))) - 719468))) = some r := H
    have A5 := Aside0.mk A50
    clear A50
    obtain rfl := Option.some.inj H
    go_enter Try.func31, Try.ntmps31
    go_wp2_with (first | ((with_reducible refine gate_callee (f := 53) rfl ?_); refine goesL_ (some 16) rfl rfl Try.func53 (by kernel_rfl) rfl #[.int .i64 (wrap64 (a0 - 1)), .int .i64 400] rfl (by (try simp only [List.map_toArray, List.map_cons, List.map_nil]); first | done | rfl | (simp only [List.length_drop, List.length_take]; rfl)) ?_; (with_reducible refine (interlocutorref1_floor.calls (wrap64 (a0 - 1)) 400 t255 _ A5.out).mono ?_); rintro e w' ⟨rfl, ⟨nd, rfl⟩⟩; refine ⟨_, rfl, ?_⟩))
    go_ret
    exact ⟨by first | rfl | (simp; done) | (simp [*]; done), by repeat (first | exact Drawn0.refl _ | apply Drawn0.step)⟩
  · rw [if_neg c4] at H
    have c4b0 : decide (a1 ≤ 2) = false := decide_eq_false c4
    clear c4
    replace H := Option.bind_eq_some_iff.mp H
    obtain ⟨t256, A60, H⟩ := H
    replace H : (some (wrap64 ((wrap64 ((wrap64 ((wrap64 ((wrap64 ((wrap64 (146097 * t256)) + (wrap64 (365 * (wrap64 (a0 - (wrap64 (400 * t256)))))))) + (wrap64 (Int.tdiv (wrap64 (a0 - (wrap64 (400 * t256)))) 4)))) - (wrap64 (Int.tdiv (wrap64 (a0 - (wrap64 (400 * t256)))) 100)))) + (wrap64 ((wrap64 ((wrap64 (Int.tdiv (wrap64 ((wrap64 (153 * (Int.tmod (wrap64 (a1 + 9)) 12))) + 2)) 5)) + a2)) - 1)))) - 719468))) = some r := H
    have A6 := Aside0.mk A60
    clear A60
    obtain rfl := Option.some.inj H
    go_enter Try.func31, Try.ntmps31
    go_wp2_with (first | ((with_reducible refine gate_callee (f := 53) rfl ?_); refine goesL_ (some 16) rfl rfl Try.func53 (by kernel_rfl) rfl #[.int .i64 a0, .int .i64 400] rfl (by (try simp only [List.map_toArray, List.map_cons, List.map_nil]); first | done | rfl | (simp only [List.length_drop, List.length_take]; rfl)) ?_; (with_reducible refine (interlocutorref1_floor.calls a0 400 t256 _ A6.out).mono ?_); rintro e w' ⟨rfl, ⟨nd, rfl⟩⟩; refine ⟨_, rfl, ?_⟩))
    go_ret
    exact ⟨by first | rfl | (simp; done) | (simp [*]; done), by repeat (first | exact Drawn0.refl _ | apply Drawn0.step)⟩

/-! ### interlocutorlaw2_within: function 88 -/
def interlocutorlaw2_within.f (a0 : Int) (a1 : Int) : Option (Int) := if a1 = 0 then (none) else (if (Int.tmod a0 a1) < 0 then (some (wrap64 ((Int.tmod a0 a1) + a1))) else (some (Int.tmod a0 a1)))
set_option maxHeartbeats 8000000 in
set_option maxRecDepth 100000 in
theorem interlocutorlaw2_within.calls (a0 : Int) (a1 : Int) (r : Int) (w : World) (h : interlocutorlaw2_within.f a0 a1 = some r) :
    Calls Try.prog 88 #[.int .i64 a0, .int .i64 a1] w fun e w' => e = .returned (.int .i64 r) ∧ Drawn0 w w' := by
  have H : (if a1 = 0 then (none) else (if (Int.tmod a0 a1) < 0 then (some (wrap64 ((Int.tmod a0 a1) + a1))) else (some (Int.tmod a0 a1)))) = some r := h
  clear h
  by_cases c3 : a1 = 0
  · rw [if_pos c3] at H
    exact absurd H (by simp)
  · rw [if_neg c3] at H
    have c3b0 : (a1 == 0) = false := beq_eq_false_iff_ne.mpr c3
    have c3b1 : (a1 != 0) = true := bne_iff_ne.mpr c3
    by_cases c4 : (Int.tmod a0 a1) < 0
    · rw [if_pos c4] at H
      have c4b0 : decide ((Int.tmod a0 a1) < 0) = true := decide_eq_true c4
      clear c4
      obtain rfl := Option.some.inj H
      go_enter Try.func88, Try.ntmps88
      go_wp2
      go_ret
      exact ⟨by first | rfl | (simp; done) | (simp [*]; done), by repeat (first | exact Drawn0.refl _ | apply Drawn0.step)⟩
    · rw [if_neg c4] at H
      have c4b0 : decide ((Int.tmod a0 a1) < 0) = false := decide_eq_false c4
      clear c4
      obtain rfl := Option.some.inj H
      go_enter Try.func88, Try.ntmps88
      go_wp2
      go_ret
      exact ⟨by first | rfl | (simp; done) | (simp [*]; done), by repeat (first | exact Drawn0.refl _ | apply Drawn0.step)⟩

/-! ### interlocutorlaw2_Make: function 49 -/
def interlocutorlaw2_Make.j0 : Nat → Int → Int → Option (Int × Int)
  | 0, _, _ => none
  | k + 1, x1, x6 => (interlocutorlaw2_within.f x1 11).bind fun t272 => (if t272 = 0 then ((interlocutorlaw2_within.f (wrap64 (Int.tdiv x1 7)) 19).bind fun t273 => (some (wrap64 ((wrap64 (Int.tdiv x6 1000000)) * 1000000), t273))) else ((interlocutorlaw2_within.f (wrap64 (Int.tdiv x1 7)) 19).bind fun t274 => (some (x6, t274))))
def interlocutorlaw2_Make.f (k : Nat) (a0 : Int) (a1 : Int) : Option (Int × Int) := (interlocutorlaw2_within.f a1 7).bind fun t270 => (if t270 = 0 then ((interlocutorlaw2_within.f a0 2000).bind fun t271 => (interlocutorlaw2_Make.j0 k a1 (wrap64 (t271 - 1000)))) else (interlocutorlaw2_Make.j0 k a1 (Int.tmod a0 1000000000000000000)))
theorem interlocutorlaw2_Make.mono_l : ∀ k, (∀ y0 y1, LeO (interlocutorlaw2_Make.j0 k y0 y1) (interlocutorlaw2_Make.j0 (k + 1) y0 y1))
  | 0 => fun _ _ r h => by simp [interlocutorlaw2_Make.j0] at h
  | k + 1 => by
    have ih0 := interlocutorlaw2_Make.mono_l k
    · intro y0 y1
      unfold interlocutorlaw2_Make.j0
      repeat' first
      | (with_reducible exact ih0 _ _)
      | (with_reducible exact LeO.refl _)
      | (with_reducible exact LeO.none _)
      | (with_reducible refine LeO.ite ?_ ?_)
      | (with_reducible refine LeO.bind ?_ (fun _ => ?_))
      | exact ih0 _ _
      | exact LeO.none _
      | refine LeO.ite ?_ ?_
      | refine LeO.bind ?_ (fun _ => ?_)
theorem interlocutorlaw2_Make.mono : ∀ a0 a1 k, LeO (interlocutorlaw2_Make.f k a0 a1) (interlocutorlaw2_Make.f (k + 1) a0 a1) := by
  intro a0 a1 k
  have ih0 := interlocutorlaw2_Make.mono_l k
  unfold interlocutorlaw2_Make.f
  repeat' first
      | (with_reducible exact ih0 _ _)
      | (with_reducible exact LeO.refl _)
      | (with_reducible exact LeO.none _)
      | (with_reducible refine LeO.ite ?_ ?_)
      | (with_reducible refine LeO.bind ?_ (fun _ => ?_))
      | exact ih0 _ _
      | exact LeO.none _
      | refine LeO.ite ?_ ?_
      | refine LeO.bind ?_ (fun _ => ?_)
set_option maxHeartbeats 8000000 in
set_option maxRecDepth 100000 in
theorem interlocutorlaw2_Make.calls (k : Nat) (a0 : Int) (a1 : Int) (r1 : Int) (r2 : Int) (w : World) (h : interlocutorlaw2_Make.f k a0 a1 = some (r1, r2)) :
    Calls Try.prog 49 #[.int .i64 a0, .int .i64 a1] w fun e w' => e = .returned (.tuple #[.int .i64 r1, .int .i64 r2]) ∧ Drawn0 w w' := by
  have H : ((interlocutorlaw2_within.f a1 7).bind fun t270 => (if t270 = 0 then ((interlocutorlaw2_within.f a0 2000).bind fun t271 => (interlocutorlaw2_Make.j0 k a1 (wrap64 (t271 - 1000)))) else (interlocutorlaw2_Make.j0 k a1 (Int.tmod a0 1000000000000000000)))) = some (r1, r2) := h
  clear h
  replace H := Option.bind_eq_some_iff.mp H
  obtain ⟨t270, A30, H⟩ := H
  replace H : (if t270 = 0 then ((interlocutorlaw2_within.f a0 2000).bind fun t271 => (interlocutorlaw2_Make.j0 k a1 (wrap64 (t271 - 1000)))) else (interlocutorlaw2_Make.j0 k a1 (Int.tmod a0 1000000000000000000))) = some (r1, r2) := H
  have A3 := Aside0.mk A30
  clear A30
  have HC4 := Aside0.mk H
  clear H
  go_enter Try.func49, Try.ntmps49
  go_upto_if 11 with (first | ((with_reducible refine gate_callee (f := 88) rfl ?_); refine goesL_ (some 10) rfl rfl Try.func88 (by kernel_rfl) rfl #[.int .i64 a1, .int .i64 7] rfl (by (try simp only [List.map_toArray, List.map_cons, List.map_nil]); first | done | rfl | (simp only [List.length_drop, List.length_take]; rfl)) ?_; (with_reducible refine (interlocutorlaw2_within.calls a1 7 t270 _ A3.out).mono ?_); rintro e w' ⟨rfl, ⟨nd, rfl⟩⟩; refine ⟨_, rfl, ?_⟩))
  (try simp only [Act.put, List.setIfInBounds_toArray, List.set_cons_zero, List.set_cons_succ])
  go_cut [6] (fun v6 wc => ∃ (kq : Nat) (x6_3 : Int), v6 = .int .i64 x6_3 ∧ Aside0 (interlocutorlaw2_Make.j0 kq a1 x6_3 = some (r1, r2)) ∧ Aside0 (kq ≤ k) ∧ Drawn0 w wc)
  case first =>
    have H := HC4.out
    clear HC4
    by_cases c5 : t270 = 0
    · rw [if_pos c5] at H
      have c5b0 : (t270 == 0) = true := beq_iff_eq.mpr c5
      have c5b1 : (t270 != 0) = false := bne_eq_false_iff_eq.mpr c5
      clear c5
      (first | rw [c5b0] | (simp only [i64_w, i32_w]; rw [c5b0]) | skip)
      replace H := Option.bind_eq_some_iff.mp H
      obtain ⟨t271, A60, H⟩ := H
      replace H : (interlocutorlaw2_Make.j0 k a1 (wrap64 (t271 - 1000))) = some (r1, r2) := H
      have A6 := Aside0.mk A60
      clear A60
      have H' := Aside0.mk H
      clear H
      go_wp2_with (first | ((with_reducible refine gate_callee (f := 88) rfl ?_); refine goesL_ (some 13) rfl rfl Try.func88 (by kernel_rfl) rfl #[.int .i64 a0, .int .i64 2000] rfl (by (try simp only [List.map_toArray, List.map_cons, List.map_nil]); first | done | rfl | (simp only [List.length_drop, List.length_take]; rfl)) ?_; (with_reducible refine (interlocutorlaw2_within.calls a0 2000 t271 _ A6.out).mono ?_); rintro e w' ⟨rfl, ⟨nd, rfl⟩⟩; refine ⟨_, rfl, ?_⟩))
      go_meet
      case rel => exact ⟨_, (wrap64 (t271 - 1000)), (by first | rfl | (simp; done) | (simp [*]; done)), H', ⟨by first | omega | exact Nat.le_refl _⟩, by repeat (first | exact Drawn0.refl _ | apply Drawn0.step)⟩
    · rw [if_neg c5] at H
      have c5b0 : (t270 == 0) = false := beq_eq_false_iff_ne.mpr c5
      have c5b1 : (t270 != 0) = true := bne_iff_ne.mpr c5
      (first | rw [c5b0] | (simp only [i64_w, i32_w]; rw [c5b0]) | skip)
      have H' := Aside0.mk H
      clear H
      go_wp2
      go_meet
      case rel => exact ⟨_, (Int.tmod a0 1000000000000000000), (by first | rfl | (simp; done) | (simp [*]; done)), H', ⟨by first | omega | exact Nat.le_refl _⟩, by repeat (first | exact Drawn0.refl _ | apply Drawn0.step)⟩
  case rest =>
    clear HC4
    try clear p2
    try clear c4
    try clear c5
    try clear c5b0
    try clear c5b1
    try clear p6
    obtain ⟨kq, x6_3, rfl, HA, HJ3, ⟨mc3, rfl⟩⟩ := hcut
    cases kq with
    | zero => exact absurd HA.out (by simp [interlocutorlaw2_Make.j0])
    | succ kj3 =>
      have H := HA.out
      clear HA
      simp only [interlocutorlaw2_Make.j0] at H
      replace H := Option.bind_eq_some_iff.mp H
      obtain ⟨t272, A70, H⟩ := H
      replace H : (if t272 = 0 then ((interlocutorlaw2_within.f (wrap64 (Int.tdiv a1 7)) 19).bind fun t273 => (some (wrap64 ((wrap64 (Int.tdiv x6_3 1000000)) * 1000000), t273))) else ((interlocutorlaw2_within.f (wrap64 (Int.tdiv a1 7)) 19).bind fun t274 => (some (x6_3, t274)))) = some (r1, r2) := H
      have A7 := Aside0.mk A70
      clear A70
      by_cases c8 : t272 = 0
      · rw [if_pos c8] at H
        have c8b0 : (t272 == 0) = true := beq_iff_eq.mpr c8
        have c8b1 : (t272 != 0) = false := bne_eq_false_iff_eq.mpr c8
        clear c8
        replace H := Option.bind_eq_some_iff.mp H
        obtain ⟨t273, A90, H⟩ := H
        replace H : (some (wrap64 ((wrap64 (Int.tdiv x6_3 1000000)) * 1000000), t273)) = some (r1, r2) := H
        have A9 := Aside0.mk A90
        clear A90
        simp only [Option.some.injEq, Prod.mk.injEq] at H
        obtain ⟨rfl, rfl⟩ := H
        go_wp2_with (first | ((with_reducible refine gate_callee (f := 88) rfl ?_); refine goesL_ (some 16) rfl rfl Try.func88 (by kernel_rfl) rfl #[.int .i64 a1, .int .i64 11] rfl (by (try simp only [List.map_toArray, List.map_cons, List.map_nil]); first | done | rfl | (simp only [List.length_drop, List.length_take]; rfl)) ?_; (with_reducible refine (interlocutorlaw2_within.calls a1 11 t272 _ A7.out).mono ?_); rintro e w' ⟨rfl, ⟨nd, rfl⟩⟩; refine ⟨_, rfl, ?_⟩) | ((with_reducible refine gate_callee (f := 88) rfl ?_); refine goesL_ (some 24) rfl rfl Try.func88 (by kernel_rfl) rfl #[.int .i64 (wrap64 (Int.tdiv a1 7)), .int .i64 19] rfl (by (try simp only [List.map_toArray, List.map_cons, List.map_nil]); first | done | rfl | (simp only [List.length_drop, List.length_take]; rfl)) ?_; (with_reducible refine (interlocutorlaw2_within.calls (wrap64 (Int.tdiv a1 7)) 19 t273 _ A9.out).mono ?_); rintro e w' ⟨rfl, ⟨nd, rfl⟩⟩; refine ⟨_, rfl, ?_⟩))
        go_ret2
        exact ⟨by first | rfl | (simp; done) | (simp [*]; done), by repeat (first | exact Drawn0.refl _ | apply Drawn0.step)⟩
      · rw [if_neg c8] at H
        have c8b0 : (t272 == 0) = false := beq_eq_false_iff_ne.mpr c8
        have c8b1 : (t272 != 0) = true := bne_iff_ne.mpr c8
        replace H := Option.bind_eq_some_iff.mp H
        obtain ⟨t274, A100, H⟩ := H
        replace H : (some (x6_3, t274)) = some (r1, r2) := H
        have A10 := Aside0.mk A100
        clear A100
        simp only [Option.some.injEq, Prod.mk.injEq] at H
        obtain ⟨rfl, rfl⟩ := H
        go_wp2_with (first | ((with_reducible refine gate_callee (f := 88) rfl ?_); refine goesL_ (some 16) rfl rfl Try.func88 (by kernel_rfl) rfl #[.int .i64 a1, .int .i64 11] rfl (by (try simp only [List.map_toArray, List.map_cons, List.map_nil]); first | done | rfl | (simp only [List.length_drop, List.length_take]; rfl)) ?_; (with_reducible refine (interlocutorlaw2_within.calls a1 11 t272 _ A7.out).mono ?_); rintro e w' ⟨rfl, ⟨nd, rfl⟩⟩; refine ⟨_, rfl, ?_⟩) | ((with_reducible refine gate_callee (f := 88) rfl ?_); refine goesL_ (some 24) rfl rfl Try.func88 (by kernel_rfl) rfl #[.int .i64 (wrap64 (Int.tdiv a1 7)), .int .i64 19] rfl (by (try simp only [List.map_toArray, List.map_cons, List.map_nil]); first | done | rfl | (simp only [List.length_drop, List.length_take]; rfl)) ?_; (with_reducible refine (interlocutorlaw2_within.calls (wrap64 (Int.tdiv a1 7)) 19 t274 _ A10.out).mono ?_); rintro e w' ⟨rfl, ⟨nd, rfl⟩⟩; refine ⟨_, rfl, ?_⟩))
        go_ret2
        exact ⟨by first | rfl | (simp; done) | (simp [*]; done), by repeat (first | exact Drawn0.refl _ | apply Drawn0.step)⟩

/-! ### interlocutorref1_Clock: function 51 -/
def interlocutorref1_Clock.f (a0 : Int) (a1 : Int) (a2 : Int) : Option (Bool) := if a0 ≥ 0 then (if a0 ≤ 23 then (if a1 ≥ 0 then (if a1 ≤ 59 then (if a2 ≥ 0 then (some (decide (a2 ≤ 59))) else (some false)) else (some false)) else (some false)) else (some false)) else (some false)
set_option maxHeartbeats 8000000 in
set_option maxRecDepth 100000 in
theorem interlocutorref1_Clock.calls (a0 : Int) (a1 : Int) (a2 : Int) (r : Bool) (w : World) (h : interlocutorref1_Clock.f a0 a1 a2 = some r) :
    Calls Try.prog 51 #[.int .i64 a0, .int .i64 a1, .int .i64 a2] w fun e w' => e = .returned (.bool r) ∧ Drawn0 w w' := by
  have H : (if a0 ≥ 0 then (if a0 ≤ 23 then (if a1 ≥ 0 then (if a1 ≤ 59 then (if a2 ≥ 0 then (some (decide (a2 ≤ 59))) else (some false)) else (some false)) else (some false)) else (some false)) else (some false)) = some r := h
  clear h
  by_cases c4 : a0 ≥ 0
  · rw [if_pos c4] at H
    have c4b0 : decide (0 ≤ a0) = true := decide_eq_true c4
    clear c4
    by_cases c5 : a0 ≤ 23
    · rw [if_pos c5] at H
      have c5b0 : decide (a0 ≤ 23) = true := decide_eq_true c5
      clear c5
      by_cases c6 : a1 ≥ 0
      · rw [if_pos c6] at H
        have c6b0 : decide (0 ≤ a1) = true := decide_eq_true c6
        clear c6
        by_cases c7 : a1 ≤ 59
        · rw [if_pos c7] at H
          have c7b0 : decide (a1 ≤ 59) = true := decide_eq_true c7
          clear c7
          by_cases c8 : a2 ≥ 0
          · rw [if_pos c8] at H
            have c8b0 : decide (0 ≤ a2) = true := decide_eq_true c8
            clear c8
            obtain rfl := Option.some.inj H
            go_enter Try.func51, Try.ntmps51
            go_wp2
            go_ret
            exact ⟨by first | rfl | (simp; done) | (simp [*]; done), by repeat (first | exact Drawn0.refl _ | apply Drawn0.step)⟩
          · rw [if_neg c8] at H
            have c8b0 : decide (0 ≤ a2) = false := decide_eq_false c8
            clear c8
            obtain rfl := Option.some.inj H
            go_enter Try.func51, Try.ntmps51
            go_wp2
            go_ret
            exact ⟨by first | rfl | (simp; done) | (simp [*]; done), by repeat (first | exact Drawn0.refl _ | apply Drawn0.step)⟩
        · rw [if_neg c7] at H
          have c7b0 : decide (a1 ≤ 59) = false := decide_eq_false c7
          clear c7
          obtain rfl := Option.some.inj H
          go_enter Try.func51, Try.ntmps51
          go_wp2
          go_ret
          exact ⟨by first | rfl | (simp; done) | (simp [*]; done), by repeat (first | exact Drawn0.refl _ | apply Drawn0.step)⟩
      · rw [if_neg c6] at H
        have c6b0 : decide (0 ≤ a1) = false := decide_eq_false c6
        clear c6
        obtain rfl := Option.some.inj H
        go_enter Try.func51, Try.ntmps51
        go_wp2
        go_ret
        exact ⟨by first | rfl | (simp; done) | (simp [*]; done), by repeat (first | exact Drawn0.refl _ | apply Drawn0.step)⟩
    · rw [if_neg c5] at H
      have c5b0 : decide (a0 ≤ 23) = false := decide_eq_false c5
      clear c5
      obtain rfl := Option.some.inj H
      go_enter Try.func51, Try.ntmps51
      go_wp2
      go_ret
      exact ⟨by first | rfl | (simp; done) | (simp [*]; done), by repeat (first | exact Drawn0.refl _ | apply Drawn0.step)⟩
  · rw [if_neg c4] at H
    have c4b0 : decide (0 ≤ a0) = false := decide_eq_false c4
    clear c4
    obtain rfl := Option.some.inj H
    go_enter Try.func51, Try.ntmps51
    go_wp2
    go_ret
    exact ⟨by first | rfl | (simp; done) | (simp [*]; done), by repeat (first | exact Drawn0.refl _ | apply Drawn0.step)⟩

/-! ### interlocutorref2_Norm: function 89 -/
def interlocutorref2_Norm.l0 : Nat → Int → Int → Option (Int × Int)
  | 0, _, _ => none
  | k + 1, x0, x1 => if x1 > 0 then (if (Int.tmod x0 10) = 0 then (interlocutorref2_Norm.l0 k (wrap64 (Int.tdiv x0 10)) (wrap64 (x1 - 1))) else (some (x0, x1))) else (some (x0, x1))
def interlocutorref2_Norm.f (k : Nat) (a0 : Int) (a1 : Int) : Option (Int × Int) := interlocutorref2_Norm.l0 k a0 a1
theorem interlocutorref2_Norm.mono_l : ∀ k, (∀ y0 y1, LeO (interlocutorref2_Norm.l0 k y0 y1) (interlocutorref2_Norm.l0 (k + 1) y0 y1))
  | 0 => fun _ _ r h => by simp [interlocutorref2_Norm.l0] at h
  | k + 1 => by
    have ih0 := interlocutorref2_Norm.mono_l k
    · intro y0 y1
      unfold interlocutorref2_Norm.l0
      repeat' first
      | (with_reducible exact ih0 _ _)
      | (with_reducible exact LeO.refl _)
      | (with_reducible exact LeO.none _)
      | (with_reducible refine LeO.ite ?_ ?_)
      | (with_reducible refine LeO.bind ?_ (fun _ => ?_))
      | exact ih0 _ _
      | exact LeO.none _
      | refine LeO.ite ?_ ?_
      | refine LeO.bind ?_ (fun _ => ?_)
theorem interlocutorref2_Norm.mono : ∀ a0 a1 k, LeO (interlocutorref2_Norm.f k a0 a1) (interlocutorref2_Norm.f (k + 1) a0 a1) := by
  intro a0 a1 k
  have ih0 := interlocutorref2_Norm.mono_l k
  unfold interlocutorref2_Norm.f
  repeat' first
      | (with_reducible exact ih0 _ _)
      | (with_reducible exact LeO.refl _)
      | (with_reducible exact LeO.none _)
      | (with_reducible refine LeO.ite ?_ ?_)
      | (with_reducible refine LeO.bind ?_ (fun _ => ?_))
      | exact ih0 _ _
      | exact LeO.none _
      | refine LeO.ite ?_ ?_
      | refine LeO.bind ?_ (fun _ => ?_)
set_option maxHeartbeats 8000000 in
set_option maxRecDepth 100000 in
theorem interlocutorref2_Norm.calls (k : Nat) (a0 : Int) (a1 : Int) (r1 : Int) (r2 : Int) (w : World) (h : interlocutorref2_Norm.f k a0 a1 = some (r1, r2)) :
    Calls Try.prog 89 #[.int .i64 a0, .int .i64 a1] w fun e w' => e = .returned (.tuple #[.int .i64 r1, .int .i64 r2]) ∧ Drawn0 w w' := by
  have H : (interlocutorref2_Norm.l0 k a0 a1) = some (r1, r2) := h
  clear h
  have H' := Aside0.mk H
  clear H
  go_enter Try.func89, Try.ntmps89
  go_wp2
  go_loopg [0, 1] k (fun kq v0 v1 w' => ∃ (x0_1 : Int) (x1_1 : Int), v0 = .int .i64 x0_1 ∧ v1 = .int .i64 x1_1 ∧ Aside0 (interlocutorref2_Norm.l0 kq x0_1 x1_1 = some (r1, r2)) ∧ Aside0 (kq ≤ k) ∧ Drawn0 w w')
  case atStart => exact ⟨(a0), (a1), (by first | rfl | (simp; done) | (simp [*]; done)), (by first | rfl | (simp; done) | (simp [*]; done)), H', ⟨Nat.le_refl _⟩, by repeat (first | exact Drawn0.refl _ | apply Drawn0.step)⟩
  case round =>
    clear H'
    try clear p2
    obtain ⟨x0_1, x1_1, rfl, rfl, HA, HK1, ⟨m1, rfl⟩⟩ := hrel
    cases gk with
    | zero => exact absurd HA.out (by simp [interlocutorref2_Norm.l0])
    | succ k1 =>
      have H := HA.out
      clear HA
      simp only [interlocutorref2_Norm.l0] at H
      by_cases c3 : x1_1 > 0
      · rw [if_pos c3] at H
        have c3b0 : decide (0 < x1_1) = true := decide_eq_true c3
        clear c3
        by_cases c4 : (Int.tmod x0_1 10) = 0
        · rw [if_pos c4] at H
          have c4b0 : ((Int.tmod x0_1 10) == 0) = true := beq_iff_eq.mpr c4
          have c4b1 : ((Int.tmod x0_1 10) != 0) = false := bne_eq_false_iff_eq.mpr c4
          clear c4
          have H' := Aside0.mk H
          clear H
          go_wp2
          go_roundg k1
          case measure => have := HK1.out; omega
          case rel => exact ⟨(wrap64 (Int.tdiv x0_1 10)), (wrap64 (x1_1 - 1)), (by first | rfl | (simp; done) | (simp [*]; done)), (by first | rfl | (simp; done) | (simp [*]; done)), H', ⟨by have := HK1.out; omega⟩, by repeat (first | exact Drawn0.refl _ | apply Drawn0.step)⟩
        · rw [if_neg c4] at H
          have c4b0 : ((Int.tmod x0_1 10) == 0) = false := beq_eq_false_iff_ne.mpr c4
          have c4b1 : ((Int.tmod x0_1 10) != 0) = true := bne_iff_ne.mpr c4
          simp only [Option.some.injEq, Prod.mk.injEq] at H
          obtain ⟨rfl, rfl⟩ := H
          go_wp2
          go_ret2
          exact ⟨by first | rfl | (simp; done) | (simp [*]; done), by repeat (first | exact Drawn0.refl _ | apply Drawn0.step)⟩
      · rw [if_neg c3] at H
        have c3b0 : decide (0 < x1_1) = false := decide_eq_false c3
        clear c3
        simp only [Option.some.injEq, Prod.mk.injEq] at H
        obtain ⟨rfl, rfl⟩ := H
        go_wp2
        go_ret2
        exact ⟨by first | rfl | (simp; done) | (simp [*]; done), by repeat (first | exact Drawn0.refl _ | apply Drawn0.step)⟩

/-! ### interlocutorref2_Right: function 52 -/
def interlocutorref2_Right.f (k : Nat) (a0 : Int) (a1 : Int) : Option (Bool) := if a0 ≤ (-1000000000000000000) then (some false) else (if a0 ≥ 1000000000000000000 then (some false) else (if a1 < 0 then (some false) else (if a1 > 18 then (some false) else ((interlocutorref2_Norm.f k a0 a1).bind fun bt192 => (if bt192.1 = a0 then (some (bt192.2 == a1)) else (some false))))))
theorem interlocutorref2_Right.mono : ∀ a0 a1 k, LeO (interlocutorref2_Right.f k a0 a1) (interlocutorref2_Right.f (k + 1) a0 a1) := by
  intro a0 a1 k
  unfold interlocutorref2_Right.f
  repeat' first
      | (with_reducible exact interlocutorref2_Norm.mono _ _ _)
      | (with_reducible exact LeO.refl _)
      | (with_reducible exact LeO.none _)
      | (with_reducible refine LeO.ite ?_ ?_)
      | (with_reducible refine LeO.bind ?_ (fun _ => ?_))
      | exact interlocutorref2_Norm.mono _ _ _
      | exact LeO.none _
      | refine LeO.ite ?_ ?_
      | refine LeO.bind ?_ (fun _ => ?_)
set_option maxHeartbeats 8000000 in
set_option maxRecDepth 100000 in
theorem interlocutorref2_Right.calls (k : Nat) (a0 : Int) (a1 : Int) (r : Bool) (w : World) (h : interlocutorref2_Right.f k a0 a1 = some r) :
    Calls Try.prog 52 #[.int .i64 a0, .int .i64 a1] w fun e w' => e = .returned (.bool r) ∧ Drawn0 w w' := by
  have H : (if a0 ≤ (-1000000000000000000) then (some false) else (if a0 ≥ 1000000000000000000 then (some false) else (if a1 < 0 then (some false) else (if a1 > 18 then (some false) else ((interlocutorref2_Norm.f k a0 a1).bind fun bt192 => (if bt192.1 = a0 then (some (bt192.2 == a1)) else (some false))))))) = some r := h
  clear h
  by_cases c3 : a0 ≤ (-1000000000000000000)
  · rw [if_pos c3] at H
    have c3b0 : decide (a0 ≤ (-1000000000000000000)) = true := decide_eq_true c3
    clear c3
    obtain rfl := Option.some.inj H
    go_enter Try.func52, Try.ntmps52
    go_wp2
    go_ret
    exact ⟨by first | rfl | (simp; done) | (simp [*]; done), by repeat (first | exact Drawn0.refl _ | apply Drawn0.step)⟩
  · rw [if_neg c3] at H
    have c3b0 : decide (a0 ≤ (-1000000000000000000)) = false := decide_eq_false c3
    clear c3
    by_cases c4 : a0 ≥ 1000000000000000000
    · rw [if_pos c4] at H
      have c4b0 : decide (1000000000000000000 ≤ a0) = true := decide_eq_true c4
      clear c4
      obtain rfl := Option.some.inj H
      go_enter Try.func52, Try.ntmps52
      go_wp2
      go_ret
      exact ⟨by first | rfl | (simp; done) | (simp [*]; done), by repeat (first | exact Drawn0.refl _ | apply Drawn0.step)⟩
    · rw [if_neg c4] at H
      have c4b0 : decide (1000000000000000000 ≤ a0) = false := decide_eq_false c4
      clear c4
      by_cases c5 : a1 < 0
      · rw [if_pos c5] at H
        have c5b0 : decide (a1 < 0) = true := decide_eq_true c5
        clear c5
        obtain rfl := Option.some.inj H
        go_enter Try.func52, Try.ntmps52
        go_wp2
        go_ret
        exact ⟨by first | rfl | (simp; done) | (simp [*]; done), by repeat (first | exact Drawn0.refl _ | apply Drawn0.step)⟩
      · rw [if_neg c5] at H
        have c5b0 : decide (a1 < 0) = false := decide_eq_false c5
        clear c5
        by_cases c6 : a1 > 18
        · rw [if_pos c6] at H
          have c6b0 : decide (18 < a1) = true := decide_eq_true c6
          clear c6
          obtain rfl := Option.some.inj H
          go_enter Try.func52, Try.ntmps52
          go_wp2
          go_ret
          exact ⟨by first | rfl | (simp; done) | (simp [*]; done), by repeat (first | exact Drawn0.refl _ | apply Drawn0.step)⟩
        · rw [if_neg c6] at H
          have c6b0 : decide (18 < a1) = false := decide_eq_false c6
          clear c6
          replace H := Option.bind_eq_some_iff.mp H
          obtain ⟨⟨t192, t193⟩, A70, H⟩ := H
          replace H : (if t192 = a0 then (some (t193 == a1)) else (some false)) = some r := H
          have A7 := Aside0.mk A70
          clear A70
          by_cases c8 : t192 = a0
          · rw [if_pos c8] at H
            have c8b0 : (t192 == a0) = true := beq_iff_eq.mpr c8
            have c8b1 : (t192 != a0) = false := bne_eq_false_iff_eq.mpr c8
            clear c8
            obtain rfl := Option.some.inj H
            go_enter Try.func52, Try.ntmps52
            go_wp2_with (first | ((with_reducible refine gate_callee (f := 89) rfl ?_); refine goesL_ (some 24) rfl rfl Try.func89 (by kernel_rfl) rfl #[.int .i64 a0, .int .i64 a1] rfl (by (try simp only [List.map_toArray, List.map_cons, List.map_nil]); first | done | rfl | (simp only [List.length_drop, List.length_take]; rfl)) ?_; (with_reducible refine (interlocutorref2_Norm.calls k a0 a1 t192 t193 _ A7.out).mono ?_); rintro e w' ⟨rfl, ⟨nd, rfl⟩⟩; refine ⟨_, rfl, ?_⟩))
            go_ret
            exact ⟨by first | rfl | (simp; done) | (simp [*]; done), by repeat (first | exact Drawn0.refl _ | apply Drawn0.step)⟩
          · rw [if_neg c8] at H
            have c8b0 : (t192 == a0) = false := beq_eq_false_iff_ne.mpr c8
            have c8b1 : (t192 != a0) = true := bne_iff_ne.mpr c8
            obtain rfl := Option.some.inj H
            go_enter Try.func52, Try.ntmps52
            go_wp2_with (first | ((with_reducible refine gate_callee (f := 89) rfl ?_); refine goesL_ (some 24) rfl rfl Try.func89 (by kernel_rfl) rfl #[.int .i64 a0, .int .i64 a1] rfl (by (try simp only [List.map_toArray, List.map_cons, List.map_nil]); first | done | rfl | (simp only [List.length_drop, List.length_take]; rfl)) ?_; (with_reducible refine (interlocutorref2_Norm.calls k a0 a1 t192 t193 _ A7.out).mono ?_); rintro e w' ⟨rfl, ⟨nd, rfl⟩⟩; refine ⟨_, rfl, ?_⟩))
            go_ret
            exact ⟨by first | rfl | (simp; done) | (simp [*]; done), by repeat (first | exact Drawn0.refl _ | apply Drawn0.step)⟩

/-! ### interlocutorref1_Weekday: function 32 -/
def interlocutorref1_Weekday.f (a0 : Int) (a1 : Int) (a2 : Int) : Option (Int) := (interlocutorref1_Days.f a0 a1 a2).bind fun t501 => ((interlocutorref1_floor.f (wrap64 (t501 + 3)) 7).bind fun t502 => (some (wrap64 ((wrap64 (t501 + 3)) - (wrap64 (7 * t502))))))
set_option maxHeartbeats 8000000 in
set_option maxRecDepth 100000 in
theorem interlocutorref1_Weekday.calls (a0 : Int) (a1 : Int) (a2 : Int) (r : Int) (w : World) (h : interlocutorref1_Weekday.f a0 a1 a2 = some r) :
    Calls Try.prog 32 #[.int .i64 a0, .int .i64 a1, .int .i64 a2] w fun e w' => e = .returned (.int .i64 r) ∧ Drawn0 w w' := by
  have H : ((interlocutorref1_Days.f a0 a1 a2).bind fun t501 => ((interlocutorref1_floor.f (wrap64 (t501 + 3)) 7).bind fun t502 => (some (wrap64 ((wrap64 (t501 + 3)) - (wrap64 (7 * t502))))))) = some r := h
  clear h
  replace H := Option.bind_eq_some_iff.mp H
  obtain ⟨t501, A40, H⟩ := H
  replace H : ((interlocutorref1_floor.f (wrap64 (t501 + 3)) 7).bind fun t502 => (some (wrap64 ((wrap64 (t501 + 3)) - (wrap64 (7 * t502)))))) = some r := H
  have A4 := Aside0.mk A40
  clear A40
  replace H := Option.bind_eq_some_iff.mp H
  obtain ⟨t502, A50, H⟩ := H
  replace H : (some (wrap64 ((wrap64 (t501 + 3)) - (wrap64 (7 * t502))))) = some r := H
  have A5 := Aside0.mk A50
  clear A50
  obtain rfl := Option.some.inj H
  go_enter Try.func32, Try.ntmps32
  go_wp2_with (first | ((with_reducible refine gate_callee (f := 31) rfl ?_); refine goesL_ (some 11) rfl rfl Try.func31 (by kernel_rfl) rfl #[.int .i64 a0, .int .i64 a1, .int .i64 a2] rfl (by (try simp only [List.map_toArray, List.map_cons, List.map_nil]); first | done | rfl | (simp only [List.length_drop, List.length_take]; rfl)) ?_; (with_reducible refine (interlocutorref1_Days.calls a0 a1 a2 t501 _ A4.out).mono ?_); rintro e w' ⟨rfl, ⟨nd, rfl⟩⟩; refine ⟨_, rfl, ?_⟩) | ((with_reducible refine gate_callee (f := 53) rfl ?_); refine goesL_ (some 15) rfl rfl Try.func53 (by kernel_rfl) rfl #[.int .i64 (wrap64 (t501 + 3)), .int .i64 7] rfl (by (try simp only [List.map_toArray, List.map_cons, List.map_nil]); first | done | rfl | (simp only [List.length_drop, List.length_take]; rfl)) ?_; (with_reducible refine (interlocutorref1_floor.calls (wrap64 (t501 + 3)) 7 t502 _ A5.out).mono ?_); rintro e w' ⟨rfl, ⟨nd, rfl⟩⟩; refine ⟨_, rfl, ?_⟩))
  go_ret
  exact ⟨by first | rfl | (simp; done) | (simp [*]; done), by repeat (first | exact Drawn0.refl _ | apply Drawn0.step)⟩

/-! ### interlocutorref2_Ten: function 116 -/
def interlocutorref2_Ten.l0 : Nat → Int → Int → Int → Option (Int)
  | 0, _, _, _ => none
  | k + 1, x0, x3, x4 => if x4 < x0 then (interlocutorref2_Ten.l0 k x0 (wrap64 (10 * x3)) (wrap64 (x4 + 1))) else (some x3)
def interlocutorref2_Ten.f (k : Nat) (a0 : Int) : Option (Int) := interlocutorref2_Ten.l0 k a0 1 0
theorem interlocutorref2_Ten.mono_l : ∀ k, (∀ y0 y1 y2, LeO (interlocutorref2_Ten.l0 k y0 y1 y2) (interlocutorref2_Ten.l0 (k + 1) y0 y1 y2))
  | 0 => fun _ _ _ r h => by simp [interlocutorref2_Ten.l0] at h
  | k + 1 => by
    have ih0 := interlocutorref2_Ten.mono_l k
    · intro y0 y1 y2
      unfold interlocutorref2_Ten.l0
      repeat' first
      | (with_reducible exact ih0 _ _ _)
      | (with_reducible exact LeO.refl _)
      | (with_reducible exact LeO.none _)
      | (with_reducible refine LeO.ite ?_ ?_)
      | (with_reducible refine LeO.bind ?_ (fun _ => ?_))
      | exact ih0 _ _ _
      | exact LeO.none _
      | refine LeO.ite ?_ ?_
      | refine LeO.bind ?_ (fun _ => ?_)
theorem interlocutorref2_Ten.mono : ∀ a0 k, LeO (interlocutorref2_Ten.f k a0) (interlocutorref2_Ten.f (k + 1) a0) := by
  intro a0 k
  have ih0 := interlocutorref2_Ten.mono_l k
  unfold interlocutorref2_Ten.f
  repeat' first
      | (with_reducible exact ih0 _ _ _)
      | (with_reducible exact LeO.refl _)
      | (with_reducible exact LeO.none _)
      | (with_reducible refine LeO.ite ?_ ?_)
      | (with_reducible refine LeO.bind ?_ (fun _ => ?_))
      | exact ih0 _ _ _
      | exact LeO.none _
      | refine LeO.ite ?_ ?_
      | refine LeO.bind ?_ (fun _ => ?_)
set_option maxHeartbeats 8000000 in
set_option maxRecDepth 100000 in
theorem interlocutorref2_Ten.calls (k : Nat) (a0 : Int) (r : Int) (w : World) (h : interlocutorref2_Ten.f k a0 = some r) :
    Calls Try.prog 116 #[.int .i64 a0] w fun e w' => e = .returned (.int .i64 r) ∧ Drawn0 w w' := by
  have H : (interlocutorref2_Ten.l0 k a0 1 0) = some r := h
  clear h
  have H' := Aside0.mk H
  clear H
  go_enter Try.func116, Try.ntmps116
  go_wp2
  go_loopg [3, 4] k (fun kq v3 v4 w' => ∃ (x3_1 : Int) (x4_1 : Int), v3 = .int .i64 x3_1 ∧ v4 = .int .i64 x4_1 ∧ Aside0 (interlocutorref2_Ten.l0 kq a0 x3_1 x4_1 = some r) ∧ Aside0 (kq ≤ k) ∧ Drawn0 w w')
  case atStart => exact ⟨(1), (0), (by first | rfl | (simp; done) | (simp [*]; done)), (by first | rfl | (simp; done) | (simp [*]; done)), H', ⟨Nat.le_refl _⟩, by repeat (first | exact Drawn0.refl _ | apply Drawn0.step)⟩
  case round =>
    clear H'
    try clear c1
    obtain ⟨x3_1, x4_1, rfl, rfl, HA, HK1, ⟨m1, rfl⟩⟩ := hrel
    cases gk with
    | zero => exact absurd HA.out (by simp [interlocutorref2_Ten.l0])
    | succ k1 =>
      have H := HA.out
      clear HA
      simp only [interlocutorref2_Ten.l0] at H
      by_cases c2 : x4_1 < a0
      · rw [if_pos c2] at H
        have c2b0 : decide (x4_1 < a0) = true := decide_eq_true c2
        clear c2
        have H' := Aside0.mk H
        clear H
        go_wp2
        go_roundg k1
        case measure => have := HK1.out; omega
        case rel => exact ⟨(wrap64 (10 * x3_1)), (wrap64 (x4_1 + 1)), (by first | rfl | (simp; done) | (simp [*]; done)), (by first | rfl | (simp; done) | (simp [*]; done)), H', ⟨by have := HK1.out; omega⟩, by repeat (first | exact Drawn0.refl _ | apply Drawn0.step)⟩
      · rw [if_neg c2] at H
        have c2b0 : decide (x4_1 < a0) = false := decide_eq_false c2
        clear c2
        obtain rfl := Option.some.inj H
        go_wp2
        go_ret
        exact ⟨by first | rfl | (simp; done) | (simp [*]; done), by repeat (first | exact Drawn0.refl _ | apply Drawn0.step)⟩

end Go.Proofs.Ytldfljlklfhjkaa.PE
