/- Each call of a function that is printed here answers what its plain Lean function answers; written by a program of this session (wip/myprint.py) over the kit's print. Conditions: that the plain function answers. -/
import Derived.Test.YtbdabmegbhobiaaPCivx0
import Derived.Test.YtbdabmegbhobiaaPCivx2
namespace Go.Proofs.Ytbdabmegbhobiaa.PCiv
open Go.RowKit Go.Proofs.YtbdabmegbhobiaaW.PrintWords Go.Proofs.YtbdabmegbhobiaaW.PrintLast Go.Proofs.YtbdabmegbhobiaaW.PrintMore
attribute [local go_sem] max2_int min2_int max_two min_two max_three min_three max_four min_four   -- for this text's walks alone
set_option linter.unusedVariables false
set_option linter.unusedSimpArgs false

/-! ### interlocutorref1_Add: function 26 -/
def interlocutorref1_Add.j0 : Nat → Int → Int → Int → Int → Int → Bool → Option (Int × Int × Int × Bool)
  | 0, _, _, _, _, _, _ => none
  | k + 1, x0, x1, x2, x3, x4, x28 => if x28 = true then (some (0, 0, 0, false)) else ((interlocutorref1_floor.f (wrap64 ((wrap64 ((wrap64 ((wrap64 (12 * x0)) + x1)) - 1)) + x3)) 12).bind fun t160 => ((interlocutorref1_floor.f (wrap64 ((wrap64 ((wrap64 ((wrap64 (12 * x0)) + x1)) - 1)) + x3)) 12).bind fun t161 => ((interlocutorref1_Length.f t160 (wrap64 ((wrap64 ((wrap64 ((wrap64 ((wrap64 ((wrap64 (12 * x0)) + x1)) - 1)) + x3)) - (wrap64 (12 * t161)))) + 1))).bind fun t162 => ((interlocutorref1_Days.f t160 (wrap64 ((wrap64 ((wrap64 ((wrap64 ((wrap64 ((wrap64 (12 * x0)) + x1)) - 1)) + x3)) - (wrap64 (12 * t161)))) + 1)) (mn x2 t162)).bind fun t163 => ((interlocutorref1_Civil.f (wrap64 (t163 + x4))).bind fun bt164 => (if bt164.1 < 1 then (some (0, 0, 0, false)) else (if bt164.1 > 9999 then (some (0, 0, 0, false)) else (some (bt164.1, bt164.2.1, bt164.2.2, true)))))))))
def interlocutorref1_Add.f (k : Nat) (a0 : Int) (a1 : Int) (a2 : Int) (a3 : Int) (a4 : Int) : Option (Int × Int × Int × Bool) := if a3 < (-1000000) then (interlocutorref1_Add.j0 k a0 a1 a2 a3 a4 true) else (if a3 > 1000000 then (interlocutorref1_Add.j0 k a0 a1 a2 a3 a4 true) else (if a4 < (-10000000) then (interlocutorref1_Add.j0 k a0 a1 a2 a3 a4 true) else (interlocutorref1_Add.j0 k a0 a1 a2 a3 a4 (decide (a4 > 10000000)))))
theorem interlocutorref1_Add.mono_l : ∀ k, (∀ y0 y1 y2 y3 y4 y5, LeO (interlocutorref1_Add.j0 k y0 y1 y2 y3 y4 y5) (interlocutorref1_Add.j0 (k + 1) y0 y1 y2 y3 y4 y5))
  | 0 => fun _ _ _ _ _ _ r h => by simp [interlocutorref1_Add.j0] at h
  | k + 1 => by
    have ih0 := interlocutorref1_Add.mono_l k
    · intro y0 y1 y2 y3 y4 y5
      unfold interlocutorref1_Add.j0
      repeat' first
      | (with_reducible exact ih0 _ _ _ _ _ _)
      | (with_reducible exact LeO.refl _)
      | (with_reducible exact LeO.none _)
      | (with_reducible refine LeO.ite ?_ ?_)
      | (with_reducible refine LeO.bind ?_ (fun _ => ?_))
      | exact ih0 _ _ _ _ _ _
      | exact LeO.none _
      | refine LeO.ite ?_ ?_
      | refine LeO.bind ?_ (fun _ => ?_)
theorem interlocutorref1_Add.mono : ∀ a0 a1 a2 a3 a4 k, LeO (interlocutorref1_Add.f k a0 a1 a2 a3 a4) (interlocutorref1_Add.f (k + 1) a0 a1 a2 a3 a4) := by
  intro a0 a1 a2 a3 a4 k
  have ih0 := interlocutorref1_Add.mono_l k
  unfold interlocutorref1_Add.f
  repeat' first
      | (with_reducible exact ih0 _ _ _ _ _ _)
      | (with_reducible exact LeO.refl _)
      | (with_reducible exact LeO.none _)
      | (with_reducible refine LeO.ite ?_ ?_)
      | (with_reducible refine LeO.bind ?_ (fun _ => ?_))
      | exact ih0 _ _ _ _ _ _
      | exact LeO.none _
      | refine LeO.ite ?_ ?_
      | refine LeO.bind ?_ (fun _ => ?_)
set_option maxHeartbeats 8000000 in
set_option maxRecDepth 100000 in
theorem interlocutorref1_Add.calls (k : Nat) (a0 : Int) (a1 : Int) (a2 : Int) (a3 : Int) (a4 : Int) (r1 : Int) (r2 : Int) (r3 : Int) (r4 : Bool) (w : World) (h : interlocutorref1_Add.f k a0 a1 a2 a3 a4 = some (r1, r2, r3, r4)) :
    Calls Try.prog 26 #[.int .i64 a0, .int .i64 a1, .int .i64 a2, .int .i64 a3, .int .i64 a4] w fun e w' => e = .returned (.tuple #[.int .i64 r1, .int .i64 r2, .int .i64 r3, .bool r4]) ∧ Below w.heap.size w w' := by
  have HB := Aside0.mk (Below.refl w.heap.size w)
  have H : (if a3 < (-1000000) then (interlocutorref1_Add.j0 k a0 a1 a2 a3 a4 true) else (if a3 > 1000000 then (interlocutorref1_Add.j0 k a0 a1 a2 a3 a4 true) else (if a4 < (-10000000) then (interlocutorref1_Add.j0 k a0 a1 a2 a3 a4 true) else (interlocutorref1_Add.j0 k a0 a1 a2 a3 a4 (decide (a4 > 10000000)))))) = some (r1, r2, r3, r4) := h
  clear h
  have HC6 := Aside0.mk H
  clear H
  go_enter Try.func26, Try.ntmps26
  go_upto_region 1 with (fail)
  go_cut [28] (fun v28 wc => ∃ (kq : Nat) (x28_5 : Bool), v28 = .bool x28_5 ∧ Aside0 (interlocutorref1_Add.j0 kq a0 a1 a2 a3 a4 x28_5 = some (r1, r2, r3, r4)) ∧ Aside0 (kq ≤ k) ∧ Aside0 (Below w.heap.size w wc))
  case first =>
    have H := HC6.out
    clear HC6
    by_cases c7 : a3 < (-1000000)
    · rw [if_pos c7] at H
      have c7b0 : decide (a3 < (-1000000)) = true := decide_eq_true c7
      clear c7
      (first | rw [c7b0] | (simp only [i64_w, i32_w]; rw [c7b0]) | skip)
      have H' := Aside0.mk H
      clear H
      go_wp2
      go_meet
      case rel => exact ⟨_, (true), (by first | rfl | (simp; done) | (simp [*]; done)), H', ⟨by first | omega | exact Nat.le_refl _⟩, ⟨by repeat (first | (with_reducible first | exact HB.out | apply below_alloc | apply pw_below_drewN | apply below_drew1) | exact HB.out)⟩⟩
    · rw [if_neg c7] at H
      have c7b0 : decide (a3 < (-1000000)) = false := decide_eq_false c7
      clear c7
      (first | rw [c7b0] | (simp only [i64_w, i32_w]; rw [c7b0]) | skip)
      by_cases c8 : a3 > 1000000
      · rw [if_pos c8] at H
        have c8b0 : decide (1000000 < a3) = true := decide_eq_true c8
        clear c8
        have H' := Aside0.mk H
        clear H
        go_wp2
        go_meet
        case rel => exact ⟨_, (true), (by first | rfl | (simp; done) | (simp [*]; done)), H', ⟨by first | omega | exact Nat.le_refl _⟩, ⟨by repeat (first | (with_reducible first | exact HB.out | apply below_alloc | apply pw_below_drewN | apply below_drew1) | exact HB.out)⟩⟩
      · rw [if_neg c8] at H
        have c8b0 : decide (1000000 < a3) = false := decide_eq_false c8
        clear c8
        by_cases c9 : a4 < (-10000000)
        · rw [if_pos c9] at H
          have c9b0 : decide (a4 < (-10000000)) = true := decide_eq_true c9
          clear c9
          have H' := Aside0.mk H
          clear H
          go_wp2
          go_meet
          case rel => exact ⟨_, (true), (by first | rfl | (simp; done) | (simp [*]; done)), H', ⟨by first | omega | exact Nat.le_refl _⟩, ⟨by repeat (first | (with_reducible first | exact HB.out | apply below_alloc | apply pw_below_drewN | apply below_drew1) | exact HB.out)⟩⟩
        · rw [if_neg c9] at H
          have c9b0 : decide (a4 < (-10000000)) = false := decide_eq_false c9
          clear c9
          have H' := Aside0.mk H
          clear H
          go_wp2
          go_meet
          case rel => exact ⟨_, (decide (a4 > 10000000)), (by first | rfl | (simp; done) | (simp [*]; done)), H', ⟨by first | omega | exact Nat.le_refl _⟩, ⟨by repeat (first | (with_reducible first | exact HB.out | apply below_alloc | apply pw_below_drewN | apply below_drew1) | exact HB.out)⟩⟩
  case rest =>
    clear HC6
    try clear c2
    try clear p2
    try clear c7
    try clear c7b0
    try clear c8
    try clear c8b0
    try clear c9
    try clear c9b0
    obtain ⟨kq, x28_5, rfl, HA, HJ5, HB⟩ := hcut
    cases kq with
    | zero => exact absurd HA.out (by simp [interlocutorref1_Add.j0])
    | succ kj5 =>
      have H := HA.out
      clear HA
      simp only [interlocutorref1_Add.j0] at H
      by_cases c10 : x28_5 = true
      · subst c10
        have H1 : (some (0, 0, 0, false)) = some (r1, r2, r3, r4) := by rw [if_pos rfl] at H; exact H
        clear H
        have H := H1
        clear H1
        simp only [Option.some.injEq, Prod.mk.injEq] at H
        obtain ⟨rfl, rfl, rfl, rfl⟩ := H
        go_wp2
        refine bodyPost_ret (results_list (rs := [.tmp 10, .tmp 11, .tmp 12, .tmp 13]) rfl (by simp) (.tmp (.tmp (.tmp (.tmp .nil))))) rfl ?_
        exact ⟨by first | rfl | (simp [errW_none, errW_some] <;> rfl) | (simp [*, errW_none, errW_some] <;> rfl), by repeat (first | (with_reducible first | exact HB.out | apply below_alloc | apply pw_below_drewN | apply below_drew1) | exact HB.out)⟩
      · replace c10 := Bool.eq_false_iff.mpr c10
        subst c10
        have H1 : ((interlocutorref1_floor.f (wrap64 ((wrap64 ((wrap64 ((wrap64 (12 * a0)) + a1)) - 1)) + a3)) 12).bind fun t160 => ((interlocutorref1_floor.f (wrap64 ((wrap64 ((wrap64 ((wrap64 (12 * a0)) + a1)) - 1)) + a3)) 12).bind fun t161 => ((interlocutorref1_Length.f t160 (wrap64 ((wrap64 ((wrap64 ((wrap64 ((wrap64 ((wrap64 (12 * a0)) + a1)) - 1)) + a3)) - (wrap64 (12 * t161)))) + 1))).bind fun t162 => ((interlocutorref1_Days.f t160 (wrap64 ((wrap64 ((wrap64 ((wrap64 ((wrap64 ((wrap64 (12 * a0)) + a1)) - 1)) + a3)) - (wrap64 (12 * t161)))) + 1)) (mn a2 t162)).bind fun t163 => ((interlocutorref1_Civil.f (wrap64 (t163 + a4))).bind fun bt164 => (if bt164.1 < 1 then (some (0, 0, 0, false)) else (if bt164.1 > 9999 then (some (0, 0, 0, false)) else (some (bt164.1, bt164.2.1, bt164.2.2, true))))))))) = some (r1, r2, r3, r4) := by rw [if_neg (show ¬ (false = true) by decide)] at H; exact H
        clear H
        have H := H1
        clear H1
        replace H := Option.bind_eq_some_iff.mp H
        obtain ⟨t160, A110, H⟩ := H
        replace H : ((interlocutorref1_floor.f (wrap64 ((wrap64 ((wrap64 ((wrap64 (12 * a0)) + a1)) - 1)) + a3)) 12).bind fun t161 => ((interlocutorref1_Length.f t160 (wrap64 ((wrap64 ((wrap64 ((wrap64 ((wrap64 ((wrap64 (12 * a0)) + a1)) - 1)) + a3)) - (wrap64 (12 * t161)))) + 1))).bind fun t162 => ((interlocutorref1_Days.f t160 (wrap64 ((wrap64 ((wrap64 ((wrap64 ((wrap64 ((wrap64 (12 * a0)) + a1)) - 1)) + a3)) - (wrap64 (12 * t161)))) + 1)) (mn a2 t162)).bind fun t163 => ((interlocutorref1_Civil.f (wrap64 (t163 + a4))).bind fun bt164 => (if bt164.1 < 1 then (some (0, 0, 0, false)) else (if bt164.1 > 9999 then (some (0, 0, 0, false)) else (some (bt164.1, bt164.2.1, bt164.2.2, true)))))))) = some (r1, r2, r3, r4) := H
        have A11 := Aside0.mk A110
        clear A110
        replace H := Option.bind_eq_some_iff.mp H
        obtain ⟨t161, A120, H⟩ := H
        replace H : ((interlocutorref1_Length.f t160 (wrap64 ((wrap64 ((wrap64 ((wrap64 ((wrap64 ((wrap64 (12 * a0)) + a1)) - 1)) + a3)) - (wrap64 (12 * t161)))) + 1))).bind fun t162 => ((interlocutorref1_Days.f t160 (wrap64 ((wrap64 ((wrap64 ((wrap64 ((wrap64 ((wrap64 (12 * a0)) + a1)) - 1)) + a3)) - (wrap64 (12 * t161)))) + 1)) (mn a2 t162)).bind fun t163 => ((interlocutorref1_Civil.f (wrap64 (t163 + a4))).bind fun bt164 => (if bt164.1 < 1 then (some (0, 0, 0, false)) else (if bt164.1 > 9999 then (some (0, 0, 0, false)) else (some (bt164.1, bt164.2.1, bt164.2.2, true))))))) = some (r1, r2, r3, r4) := H
        have A12 := Aside0.mk A120
        clear A120
        replace H := Option.bind_eq_some_iff.mp H
        obtain ⟨t162, A130, H⟩ := H
        replace H : ((interlocutorref1_Days.f t160 (wrap64 ((wrap64 ((wrap64 ((wrap64 ((wrap64 ((wrap64 (12 * a0)) + a1)) - 1)) + a3)) - (wrap64 (12 * t161)))) + 1)) (mn a2 t162)).bind fun t163 => ((interlocutorref1_Civil.f (wrap64 (t163 + a4))).bind fun bt164 => (if bt164.1 < 1 then (some (0, 0, 0, false)) else (if bt164.1 > 9999 then (some (0, 0, 0, false)) else (some (bt164.1, bt164.2.1, bt164.2.2, true)))))) = some (r1, r2, r3, r4) := H
        have A13 := Aside0.mk A130
        clear A130
        obtain ⟨ji14, hji14⟩ : ∃ j_ : Int, (mn a2 t162) = j_ := ⟨_, rfl⟩
        replace H : ((interlocutorref1_Days.f t160 (wrap64 ((wrap64 ((wrap64 ((wrap64 ((wrap64 ((wrap64 (12 * a0)) + a1)) - 1)) + a3)) - (wrap64 (12 * t161)))) + 1)) (ji14)).bind fun t163 => ((interlocutorref1_Civil.f (wrap64 (t163 + a4))).bind fun bt164 => (if bt164.1 < 1 then (some (0, 0, 0, false)) else (if bt164.1 > 9999 then (some (0, 0, 0, false)) else (some (bt164.1, bt164.2.1, bt164.2.2, true)))))) = some (r1, r2, r3, r4) := by first | (rw [hji14] at H; exact H) | (simp only [hji14] at H ⊢; exact H)
        (try rw [hji14] at A11)
        (try rw [hji14] at A12)
        (try rw [hji14] at A13)
        have hji14_ : (if t162 < a2 then t162 else a2) = ji14 := hji14
        replace H := Option.bind_eq_some_iff.mp H
        obtain ⟨t163, A150, H⟩ := H
        replace H : ((interlocutorref1_Civil.f (wrap64 (t163 + a4))).bind fun bt164 => (if bt164.1 < 1 then (some (0, 0, 0, false)) else (if bt164.1 > 9999 then (some (0, 0, 0, false)) else (some (bt164.1, bt164.2.1, bt164.2.2, true))))) = some (r1, r2, r3, r4) := H
        have A15 := Aside0.mk A150
        clear A150
        replace H := Option.bind_eq_some_iff.mp H
        obtain ⟨⟨t164, t165, t166⟩, A160, H⟩ := H
        replace H : (if t164 < 1 then (some (0, 0, 0, false)) else (if t164 > 9999 then (some (0, 0, 0, false)) else (some (t164, t165, t166, true)))) = some (r1, r2, r3, r4) := H
        have A16 := Aside0.mk A160
        clear A160
        by_cases c17 : t164 < 1
        · rw [if_pos c17] at H
          have c17b0 : decide (t164 < 1) = true := decide_eq_true c17
          clear c17
          simp only [Option.some.injEq, Prod.mk.injEq] at H
          obtain ⟨rfl, rfl, rfl, rfl⟩ := H
          go_wp2_with (first | ((with_reducible refine gate_callee (f := 31) rfl ?_); refine goesL_ (some 37) rfl rfl Try.func31 (by kernel_rfl) rfl #[.int .i64 (wrap64 ((wrap64 ((wrap64 ((wrap64 (12 * a0)) + a1)) - 1)) + a3)), .int .i64 12] rfl (by (try simp only [List.map_toArray, List.map_cons, List.map_nil]); first | done | rfl | (simp only [List.length_drop, List.length_take]; rfl)) ?_; (with_reducible refine (interlocutorref1_floor.calls (wrap64 ((wrap64 ((wrap64 ((wrap64 (12 * a0)) + a1)) - 1)) + a3)) 12 t160 _ A11.out).mono ?_); rintro e w' ⟨rfl, ⟨nd, rfl⟩⟩; refine ⟨_, rfl, ?_⟩) | ((with_reducible refine gate_callee (f := 31) rfl ?_); refine goesL_ (some 40) rfl rfl Try.func31 (by kernel_rfl) rfl #[.int .i64 (wrap64 ((wrap64 ((wrap64 ((wrap64 (12 * a0)) + a1)) - 1)) + a3)), .int .i64 12] rfl (by (try simp only [List.map_toArray, List.map_cons, List.map_nil]); first | done | rfl | (simp only [List.length_drop, List.length_take]; rfl)) ?_; (with_reducible refine (interlocutorref1_floor.calls (wrap64 ((wrap64 ((wrap64 ((wrap64 (12 * a0)) + a1)) - 1)) + a3)) 12 t161 _ A12.out).mono ?_); rintro e w' ⟨rfl, ⟨nd, rfl⟩⟩; refine ⟨_, rfl, ?_⟩) | ((with_reducible refine gate_callee (f := 23) rfl ?_); refine goesL_ (some 47) rfl rfl Try.func23 (by kernel_rfl) rfl #[.int .i64 t160, .int .i64 (wrap64 ((wrap64 ((wrap64 ((wrap64 ((wrap64 ((wrap64 (12 * a0)) + a1)) - 1)) + a3)) - (wrap64 (12 * t161)))) + 1))] rfl (by (try simp only [List.map_toArray, List.map_cons, List.map_nil]); first | done | rfl | (simp only [List.length_drop, List.length_take]; rfl)) ?_; (with_reducible refine (interlocutorref1_Length.calls t160 (wrap64 ((wrap64 ((wrap64 ((wrap64 ((wrap64 ((wrap64 (12 * a0)) + a1)) - 1)) + a3)) - (wrap64 (12 * t161)))) + 1)) t162 _ A13.out).mono ?_); rintro e w' ⟨rfl, ⟨nd, rfl⟩⟩; refine ⟨_, rfl, ?_⟩) | ((with_reducible refine gate_callee (f := 18) rfl ?_); refine goesL_ (some 53) rfl rfl Try.func18 (by kernel_rfl) rfl #[.int .i64 t160, .int .i64 (wrap64 ((wrap64 ((wrap64 ((wrap64 ((wrap64 ((wrap64 (12 * a0)) + a1)) - 1)) + a3)) - (wrap64 (12 * t161)))) + 1)), .int .i64 ji14] rfl (by (try simp only [List.map_toArray, List.map_cons, List.map_nil]); first | done | (simp only [hji14]; rfl) | rfl | (simp only [List.length_drop, List.length_take]; rfl)) ?_; (with_reducible refine (interlocutorref1_Days.calls t160 (wrap64 ((wrap64 ((wrap64 ((wrap64 ((wrap64 ((wrap64 (12 * a0)) + a1)) - 1)) + a3)) - (wrap64 (12 * t161)))) + 1)) ji14 t163 _ A15.out).mono ?_); rintro e w' ⟨rfl, ⟨nd, rfl⟩⟩; refine ⟨_, rfl, ?_⟩) | ((with_reducible refine gate_callee (f := 34) rfl ?_); refine goesL_ (some 56) rfl rfl Try.func34 (by kernel_rfl) rfl #[.int .i64 (wrap64 (t163 + a4))] rfl (by (try simp only [List.map_toArray, List.map_cons, List.map_nil]); first | done | rfl | (simp only [List.length_drop, List.length_take]; rfl)) ?_; (with_reducible refine (interlocutorref1_Civil.calls (wrap64 (t163 + a4)) t164 t165 t166 _ A16.out).mono ?_); rintro e w' ⟨rfl, ⟨nd, rfl⟩⟩; refine ⟨_, rfl, ?_⟩))
          refine bodyPost_ret (results_list (rs := [.tmp 10, .tmp 11, .tmp 12, .tmp 13]) rfl (by simp) (.tmp (.tmp (.tmp (.tmp .nil))))) rfl ?_
          exact ⟨by first | rfl | (simp [errW_none, errW_some] <;> rfl) | (simp only [← hji14]; first | rfl | (simp [errW_none, errW_some] <;> rfl)) | (simp [*, errW_none, errW_some] <;> rfl), by repeat (first | (with_reducible first | exact HB.out | apply below_alloc | apply pw_below_drewN | apply below_drew1) | exact HB.out)⟩
        · rw [if_neg c17] at H
          have c17b0 : decide (t164 < 1) = false := decide_eq_false c17
          clear c17
          by_cases c18 : t164 > 9999
          · rw [if_pos c18] at H
            have c18b0 : decide (9999 < t164) = true := decide_eq_true c18
            clear c18
            simp only [Option.some.injEq, Prod.mk.injEq] at H
            obtain ⟨rfl, rfl, rfl, rfl⟩ := H
            go_wp2_with (first | ((with_reducible refine gate_callee (f := 31) rfl ?_); refine goesL_ (some 37) rfl rfl Try.func31 (by kernel_rfl) rfl #[.int .i64 (wrap64 ((wrap64 ((wrap64 ((wrap64 (12 * a0)) + a1)) - 1)) + a3)), .int .i64 12] rfl (by (try simp only [List.map_toArray, List.map_cons, List.map_nil]); first | done | rfl | (simp only [List.length_drop, List.length_take]; rfl)) ?_; (with_reducible refine (interlocutorref1_floor.calls (wrap64 ((wrap64 ((wrap64 ((wrap64 (12 * a0)) + a1)) - 1)) + a3)) 12 t160 _ A11.out).mono ?_); rintro e w' ⟨rfl, ⟨nd, rfl⟩⟩; refine ⟨_, rfl, ?_⟩) | ((with_reducible refine gate_callee (f := 31) rfl ?_); refine goesL_ (some 40) rfl rfl Try.func31 (by kernel_rfl) rfl #[.int .i64 (wrap64 ((wrap64 ((wrap64 ((wrap64 (12 * a0)) + a1)) - 1)) + a3)), .int .i64 12] rfl (by (try simp only [List.map_toArray, List.map_cons, List.map_nil]); first | done | rfl | (simp only [List.length_drop, List.length_take]; rfl)) ?_; (with_reducible refine (interlocutorref1_floor.calls (wrap64 ((wrap64 ((wrap64 ((wrap64 (12 * a0)) + a1)) - 1)) + a3)) 12 t161 _ A12.out).mono ?_); rintro e w' ⟨rfl, ⟨nd, rfl⟩⟩; refine ⟨_, rfl, ?_⟩) | ((with_reducible refine gate_callee (f := 23) rfl ?_); refine goesL_ (some 47) rfl rfl Try.func23 (by kernel_rfl) rfl #[.int .i64 t160, .int .i64 (wrap64 ((wrap64 ((wrap64 ((wrap64 ((wrap64 ((wrap64 (12 * a0)) + a1)) - 1)) + a3)) - (wrap64 (12 * t161)))) + 1))] rfl (by (try simp only [List.map_toArray, List.map_cons, List.map_nil]); first | done | rfl | (simp only [List.length_drop, List.length_take]; rfl)) ?_; (with_reducible refine (interlocutorref1_Length.calls t160 (wrap64 ((wrap64 ((wrap64 ((wrap64 ((wrap64 ((wrap64 (12 * a0)) + a1)) - 1)) + a3)) - (wrap64 (12 * t161)))) + 1)) t162 _ A13.out).mono ?_); rintro e w' ⟨rfl, ⟨nd, rfl⟩⟩; refine ⟨_, rfl, ?_⟩) | ((with_reducible refine gate_callee (f := 18) rfl ?_); refine goesL_ (some 53) rfl rfl Try.func18 (by kernel_rfl) rfl #[.int .i64 t160, .int .i64 (wrap64 ((wrap64 ((wrap64 ((wrap64 ((wrap64 ((wrap64 (12 * a0)) + a1)) - 1)) + a3)) - (wrap64 (12 * t161)))) + 1)), .int .i64 ji14] rfl (by (try simp only [List.map_toArray, List.map_cons, List.map_nil]); first | done | (simp only [hji14]; rfl) | rfl | (simp only [List.length_drop, List.length_take]; rfl)) ?_; (with_reducible refine (interlocutorref1_Days.calls t160 (wrap64 ((wrap64 ((wrap64 ((wrap64 ((wrap64 ((wrap64 (12 * a0)) + a1)) - 1)) + a3)) - (wrap64 (12 * t161)))) + 1)) ji14 t163 _ A15.out).mono ?_); rintro e w' ⟨rfl, ⟨nd, rfl⟩⟩; refine ⟨_, rfl, ?_⟩) | ((with_reducible refine gate_callee (f := 34) rfl ?_); refine goesL_ (some 56) rfl rfl Try.func34 (by kernel_rfl) rfl #[.int .i64 (wrap64 (t163 + a4))] rfl (by (try simp only [List.map_toArray, List.map_cons, List.map_nil]); first | done | rfl | (simp only [List.length_drop, List.length_take]; rfl)) ?_; (with_reducible refine (interlocutorref1_Civil.calls (wrap64 (t163 + a4)) t164 t165 t166 _ A16.out).mono ?_); rintro e w' ⟨rfl, ⟨nd, rfl⟩⟩; refine ⟨_, rfl, ?_⟩))
            refine bodyPost_ret (results_list (rs := [.tmp 10, .tmp 11, .tmp 12, .tmp 13]) rfl (by simp) (.tmp (.tmp (.tmp (.tmp .nil))))) rfl ?_
            exact ⟨by first | rfl | (simp [errW_none, errW_some] <;> rfl) | (simp only [← hji14]; first | rfl | (simp [errW_none, errW_some] <;> rfl)) | (simp [*, errW_none, errW_some] <;> rfl), by repeat (first | (with_reducible first | exact HB.out | apply below_alloc | apply pw_below_drewN | apply below_drew1) | exact HB.out)⟩
          · rw [if_neg c18] at H
            have c18b0 : decide (9999 < t164) = false := decide_eq_false c18
            clear c18
            simp only [Option.some.injEq, Prod.mk.injEq] at H
            obtain ⟨rfl, rfl, rfl, rfl⟩ := H
            go_wp2_with (first | ((with_reducible refine gate_callee (f := 31) rfl ?_); refine goesL_ (some 37) rfl rfl Try.func31 (by kernel_rfl) rfl #[.int .i64 (wrap64 ((wrap64 ((wrap64 ((wrap64 (12 * a0)) + a1)) - 1)) + a3)), .int .i64 12] rfl (by (try simp only [List.map_toArray, List.map_cons, List.map_nil]); first | done | rfl | (simp only [List.length_drop, List.length_take]; rfl)) ?_; (with_reducible refine (interlocutorref1_floor.calls (wrap64 ((wrap64 ((wrap64 ((wrap64 (12 * a0)) + a1)) - 1)) + a3)) 12 t160 _ A11.out).mono ?_); rintro e w' ⟨rfl, ⟨nd, rfl⟩⟩; refine ⟨_, rfl, ?_⟩) | ((with_reducible refine gate_callee (f := 31) rfl ?_); refine goesL_ (some 40) rfl rfl Try.func31 (by kernel_rfl) rfl #[.int .i64 (wrap64 ((wrap64 ((wrap64 ((wrap64 (12 * a0)) + a1)) - 1)) + a3)), .int .i64 12] rfl (by (try simp only [List.map_toArray, List.map_cons, List.map_nil]); first | done | rfl | (simp only [List.length_drop, List.length_take]; rfl)) ?_; (with_reducible refine (interlocutorref1_floor.calls (wrap64 ((wrap64 ((wrap64 ((wrap64 (12 * a0)) + a1)) - 1)) + a3)) 12 t161 _ A12.out).mono ?_); rintro e w' ⟨rfl, ⟨nd, rfl⟩⟩; refine ⟨_, rfl, ?_⟩) | ((with_reducible refine gate_callee (f := 23) rfl ?_); refine goesL_ (some 47) rfl rfl Try.func23 (by kernel_rfl) rfl #[.int .i64 t160, .int .i64 (wrap64 ((wrap64 ((wrap64 ((wrap64 ((wrap64 ((wrap64 (12 * a0)) + a1)) - 1)) + a3)) - (wrap64 (12 * t161)))) + 1))] rfl (by (try simp only [List.map_toArray, List.map_cons, List.map_nil]); first | done | rfl | (simp only [List.length_drop, List.length_take]; rfl)) ?_; (with_reducible refine (interlocutorref1_Length.calls t160 (wrap64 ((wrap64 ((wrap64 ((wrap64 ((wrap64 ((wrap64 (12 * a0)) + a1)) - 1)) + a3)) - (wrap64 (12 * t161)))) + 1)) t162 _ A13.out).mono ?_); rintro e w' ⟨rfl, ⟨nd, rfl⟩⟩; refine ⟨_, rfl, ?_⟩) | ((with_reducible refine gate_callee (f := 18) rfl ?_); refine goesL_ (some 53) rfl rfl Try.func18 (by kernel_rfl) rfl #[.int .i64 t160, .int .i64 (wrap64 ((wrap64 ((wrap64 ((wrap64 ((wrap64 ((wrap64 (12 * a0)) + a1)) - 1)) + a3)) - (wrap64 (12 * t161)))) + 1)), .int .i64 ji14] rfl (by (try simp only [List.map_toArray, List.map_cons, List.map_nil]); first | done | (simp only [hji14]; rfl) | rfl | (simp only [List.length_drop, List.length_take]; rfl)) ?_; (with_reducible refine (interlocutorref1_Days.calls t160 (wrap64 ((wrap64 ((wrap64 ((wrap64 ((wrap64 ((wrap64 (12 * a0)) + a1)) - 1)) + a3)) - (wrap64 (12 * t161)))) + 1)) ji14 t163 _ A15.out).mono ?_); rintro e w' ⟨rfl, ⟨nd, rfl⟩⟩; refine ⟨_, rfl, ?_⟩) | ((with_reducible refine gate_callee (f := 34) rfl ?_); refine goesL_ (some 56) rfl rfl Try.func34 (by kernel_rfl) rfl #[.int .i64 (wrap64 (t163 + a4))] rfl (by (try simp only [List.map_toArray, List.map_cons, List.map_nil]); first | done | rfl | (simp only [List.length_drop, List.length_take]; rfl)) ?_; (with_reducible refine (interlocutorref1_Civil.calls (wrap64 (t163 + a4)) t164 t165 t166 _ A16.out).mono ?_); rintro e w' ⟨rfl, ⟨nd, rfl⟩⟩; refine ⟨_, rfl, ?_⟩))
            refine bodyPost_ret (results_list (rs := [.tmp 10, .tmp 11, .tmp 12, .tmp 13]) rfl (by simp) (.tmp (.tmp (.tmp (.tmp .nil))))) rfl ?_
            exact ⟨by first | rfl | (simp [errW_none, errW_some] <;> rfl) | (simp only [← hji14]; first | rfl | (simp [errW_none, errW_some] <;> rfl)) | (simp [*, errW_none, errW_some] <;> rfl), by repeat (first | (with_reducible first | exact HB.out | apply below_alloc | apply pw_below_drewN | apply below_drew1) | exact HB.out)⟩

end Go.Proofs.Ytbdabmegbhobiaa.PCiv
