/- Each call of a function that is printed here answers what its plain Lean function answers; written by a program of this session (wip/myprint.py) over the kit's print. Conditions: that the plain function answers. -/
import Derived.Test.YtldfljlklfhjkaaPPtx0
import Derived.Test.YtldfljlklfhjkaaPPtx3
import Derived.Test.YtldfljlklfhjkaaPPtx6
import Derived.Test.YtldfljlklfhjkaaPPtx7
namespace Go.Proofs.Ytldfljlklfhjkaa.PPt
open Go.RowKit Go.Proofs.YtldfljlklfhjkaaW.PrintWords Go.Proofs.YtldfljlklfhjkaaW.PrintLast Go.Proofs.YtldfljlklfhjkaaW.PrintMore
attribute [local go_sem] max2_int min2_int max_two min_two max_three min_three max_four min_four   -- for this text's walks alone
set_option linter.unusedVariables false
set_option linter.unusedSimpArgs false

/-! ### dec_ten: function 114 -/
def dec_ten.l0 : Nat → Int → Int → Int → Option (Int)
  | 0, _, _, _ => none
  | k + 1, x3, x4, x5 => if x5 < x4 then (dec_ten.l0 k (wrap64 (x3 * 10)) x4 (wrap64 (x5 + 1))) else (some x3)
def dec_ten.f (k : Nat) (a0 : Int) : Option (Int) := dec_ten.l0 k 1 a0 0
theorem dec_ten.mono_l : ∀ k, (∀ y0 y1 y2, LeO (dec_ten.l0 k y0 y1 y2) (dec_ten.l0 (k + 1) y0 y1 y2))
  | 0 => fun _ _ _ r h => by simp [dec_ten.l0] at h
  | k + 1 => by
    have ih0 := dec_ten.mono_l k
    · intro y0 y1 y2
      unfold dec_ten.l0
      repeat' first
      | (with_reducible exact ih0 _ _ _)
      | (with_reducible exact LeO.refl _)
      | (with_reducible exact LeO.none _)
      | (with_reducible refine LeO.ite ?_ ?_)
      | (with_reducible refine LeO.bind ?_ (fun _ => ?_))
      | exact ih0 _ _ _
      | exact LeO.none _
      | refine LeO.ite ?_ ?_
      | refine LeO.bind ?_ (fun _ => ?_)
theorem dec_ten.mono : ∀ a0 k, LeO (dec_ten.f k a0) (dec_ten.f (k + 1) a0) := by
  intro a0 k
  have ih0 := dec_ten.mono_l k
  unfold dec_ten.f
  repeat' first
      | (with_reducible exact ih0 _ _ _)
      | (with_reducible exact LeO.refl _)
      | (with_reducible exact LeO.none _)
      | (with_reducible refine LeO.ite ?_ ?_)
      | (with_reducible refine LeO.bind ?_ (fun _ => ?_))
      | exact ih0 _ _ _
      | exact LeO.none _
      | refine LeO.ite ?_ ?_
      | refine LeO.bind ?_ (fun _ => ?_)
set_option maxHeartbeats 8000000 in
set_option maxRecDepth 100000 in
theorem dec_ten.calls (k : Nat) (a0 : Int) (r : Int) (w : World) (h : dec_ten.f k a0 = some r) :
    Calls Try.prog 114 #[.int .i64 a0] w fun e w' => e = .returned (.int .i64 r) ∧ Drawn0 w w' := by
  have H : (dec_ten.l0 k 1 a0 0) = some r := h
  clear h
  have H' := Aside0.mk H
  clear H
  go_enter Try.func114, Try.ntmps114
  go_wp2
  go_loopg [3, 5] k (fun kq v3 v5 w' => ∃ (x3_1 : Int) (x5_1 : Int), v3 = .int .i64 x3_1 ∧ v5 = .int .i64 x5_1 ∧ Aside0 (dec_ten.l0 kq x3_1 a0 x5_1 = some r) ∧ Aside0 (kq ≤ k) ∧ Drawn0 w w')
  case atStart => exact ⟨(1), (0), (by first | rfl | (simp; done) | (simp [*]; done)), (by first | rfl | (simp; done) | (simp [*]; done)), H', ⟨Nat.le_refl _⟩, by repeat (first | exact Drawn0.refl _ | apply Drawn0.step)⟩
  case round =>
    clear H'
    try clear c1
    obtain ⟨x3_1, x5_1, rfl, rfl, HA, HK1, ⟨m1, rfl⟩⟩ := hrel
    cases gk with
    | zero => exact absurd HA.out (by simp [dec_ten.l0])
    | succ k1 =>
      have H := HA.out
      clear HA
      simp only [dec_ten.l0] at H
      by_cases c2 : x5_1 < a0
      · rw [if_pos c2] at H
        have c2b0 : decide (x5_1 < a0) = true := decide_eq_true c2
        clear c2
        have H' := Aside0.mk H
        clear H
        go_wp2
        go_roundg k1
        case measure => have := HK1.out; omega
        case rel => exact ⟨(wrap64 (x3_1 * 10)), (wrap64 (x5_1 + 1)), (by first | rfl | (simp; done) | (simp [*]; done)), (by first | rfl | (simp; done) | (simp [*]; done)), H', ⟨by have := HK1.out; omega⟩, by repeat (first | exact Drawn0.refl _ | apply Drawn0.step)⟩
      · rw [if_neg c2] at H
        have c2b0 : decide (x5_1 < a0) = false := decide_eq_false c2
        clear c2
        obtain rfl := Option.some.inj H
        go_wp2
        go_ret
        exact ⟨by first | rfl | (simp; done) | (simp [*]; done), by repeat (first | exact Drawn0.refl _ | apply Drawn0.step)⟩

/-! ### dec_bound: function 115 -/
def dec_bound.f (k : Nat)  : Option (Int) := (dec_ten.f k 18).bind fun t192 => (some t192)
theorem dec_bound.mono : ∀ k, LeO (dec_bound.f k ) (dec_bound.f (k + 1) ) := by
  intro  k
  unfold dec_bound.f
  repeat' first
      | (with_reducible exact dec_ten.mono _ _)
      | (with_reducible exact LeO.refl _)
      | (with_reducible exact LeO.none _)
      | (with_reducible refine LeO.ite ?_ ?_)
      | (with_reducible refine LeO.bind ?_ (fun _ => ?_))
      | exact dec_ten.mono _ _
      | exact LeO.none _
      | refine LeO.ite ?_ ?_
      | refine LeO.bind ?_ (fun _ => ?_)
set_option maxHeartbeats 8000000 in
set_option maxRecDepth 100000 in
theorem dec_bound.calls (k : Nat)  (r : Int) (w : World) (h : dec_bound.f k  = some r) :
    Calls Try.prog 115 #[] w fun e w' => e = .returned (.int .i64 r) ∧ Drawn0 w w' := by
  have H : ((dec_ten.f k 18).bind fun t192 => (some t192)) = some r := h
  clear h
  replace H := Option.bind_eq_some_iff.mp H
  obtain ⟨t192, A10, H⟩ := H
  replace H : (some t192) = some r := H
  have A1 := Aside0.mk A10
  clear A10
  obtain rfl := Option.some.inj H
  go_enter Try.func115, Try.ntmps115
  go_wp2_with (first | ((with_reducible refine gate_callee (f := 114) rfl ?_); refine goesL_ (some 1) rfl rfl Try.func114 (by kernel_rfl) rfl #[.int .i64 18] rfl (by (try simp only [List.map_toArray, List.map_cons, List.map_nil]); first | done | rfl | (simp only [List.length_drop, List.length_take]; rfl)) ?_; (with_reducible refine (dec_ten.calls k 18 t192 _ A1.out).mono ?_); rintro e w' ⟨rfl, ⟨nd, rfl⟩⟩; refine ⟨_, rfl, ?_⟩))
  go_ret
  exact ⟨by first | rfl | (simp; done) | (simp [*]; done), by repeat (first | exact Drawn0.refl _ | apply Drawn0.step)⟩

/-! ### dec_Join: function 99 -/
def dec_Join.j0 : Nat → Int → Int → Int → Bool → Option (Int × Int × Bool)
  | 0, _, _, _, _ => none
  | k + 1, x0, x1, x2, x28 => if x28 = true then (some (0, 0, false)) else ((dec_bound.f k).bind fun t194 => ((dec_ten.f k x2).bind fun t195 => (if t195 = 0 then (none) else (if x0 > (wrap64 (Int.tdiv (wrap64 ((wrap64 (t194 - 1)) - x1)) t195)) then (some (0, 0, false)) else ((dec_ten.f k x2).bind fun t196 => ((dec_Norm.f (wrap64 ((wrap64 (x0 * t196)) + x1)) x2).bind fun bt197 => (some (bt197.1, bt197.2, true))))))))
def dec_Join.f (k : Nat) (a0 : Int) (a1 : Int) (a2 : Int) : Option (Int × Int × Bool) := if a0 < 0 then (dec_Join.j0 k a0 a1 a2 true) else (if a1 < 0 then (dec_Join.j0 k a0 a1 a2 true) else (if a2 < 0 then (dec_Join.j0 k a0 a1 a2 true) else (if a2 > 18 then (dec_Join.j0 k a0 a1 a2 true) else ((dec_ten.f k a2).bind fun t193 => (dec_Join.j0 k a0 a1 a2 (decide (a1 ≥ t193)))))))
theorem dec_Join.mono_l : ∀ k, (∀ y0 y1 y2 y3, LeO (dec_Join.j0 k y0 y1 y2 y3) (dec_Join.j0 (k + 1) y0 y1 y2 y3))
  | 0 => fun _ _ _ _ r h => by simp [dec_Join.j0] at h
  | k + 1 => by
    have ih0 := dec_Join.mono_l k
    · intro y0 y1 y2 y3
      unfold dec_Join.j0
      repeat' first
      | (with_reducible exact ih0 _ _ _ _)
      | (with_reducible exact dec_bound.mono _)
      | (with_reducible exact dec_ten.mono _ _)
      | (with_reducible exact LeO.refl _)
      | (with_reducible exact LeO.none _)
      | (with_reducible refine LeO.ite ?_ ?_)
      | (with_reducible refine LeO.bind ?_ (fun _ => ?_))
      | exact ih0 _ _ _ _
      | exact dec_bound.mono _
      | exact dec_ten.mono _ _
      | exact LeO.none _
      | refine LeO.ite ?_ ?_
      | refine LeO.bind ?_ (fun _ => ?_)
theorem dec_Join.mono : ∀ a0 a1 a2 k, LeO (dec_Join.f k a0 a1 a2) (dec_Join.f (k + 1) a0 a1 a2) := by
  intro a0 a1 a2 k
  have ih0 := dec_Join.mono_l k
  unfold dec_Join.f
  repeat' first
      | (with_reducible exact ih0 _ _ _ _)
      | (with_reducible exact dec_bound.mono _)
      | (with_reducible exact dec_ten.mono _ _)
      | (with_reducible exact LeO.refl _)
      | (with_reducible exact LeO.none _)
      | (with_reducible refine LeO.ite ?_ ?_)
      | (with_reducible refine LeO.bind ?_ (fun _ => ?_))
      | exact ih0 _ _ _ _
      | exact dec_bound.mono _
      | exact dec_ten.mono _ _
      | exact LeO.none _
      | refine LeO.ite ?_ ?_
      | refine LeO.bind ?_ (fun _ => ?_)
set_option maxHeartbeats 8000000 in
set_option maxRecDepth 100000 in
theorem dec_Join.calls (k : Nat) (a0 : Int) (a1 : Int) (a2 : Int) (r1 : Int) (r2 : Int) (r3 : Bool) (w : World) (h : dec_Join.f k a0 a1 a2 = some (r1, r2, r3)) :
    Calls Try.prog 99 #[.int .i64 a0, .int .i64 a1, .int .i64 a2] w fun e w' => e = .returned (.tuple #[.int .i64 r1, .int .i64 r2, .bool r3]) ∧ Drawn0 w w' := by
  have H : (if a0 < 0 then (dec_Join.j0 k a0 a1 a2 true) else (if a1 < 0 then (dec_Join.j0 k a0 a1 a2 true) else (if a2 < 0 then (dec_Join.j0 k a0 a1 a2 true) else (if a2 > 18 then (dec_Join.j0 k a0 a1 a2 true) else ((dec_ten.f k a2).bind fun t193 => (dec_Join.j0 k a0 a1 a2 (decide (a1 ≥ t193)))))))) = some (r1, r2, r3) := h
  clear h
  have HC4 := Aside0.mk H
  clear H
  go_enter Try.func99, Try.ntmps99
  go_upto_region 1 with (fail)
  go_cut [28] (fun v28 wc => ∃ (kq : Nat) (x28_3 : Bool), v28 = .bool x28_3 ∧ Aside0 (dec_Join.j0 kq a0 a1 a2 x28_3 = some (r1, r2, r3)) ∧ Aside0 (kq ≤ k) ∧ Drawn0 w wc)
  case first =>
    have H := HC4.out
    clear HC4
    by_cases c5 : a0 < 0
    · rw [if_pos c5] at H
      have c5b0 : decide (a0 < 0) = true := decide_eq_true c5
      clear c5
      (first | rw [c5b0] | (simp only [i64_w, i32_w]; rw [c5b0]) | skip)
      have H' := Aside0.mk H
      clear H
      go_wp2
      go_meet
      case rel => exact ⟨_, (true), (by first | rfl | (simp; done) | (simp [*]; done)), H', ⟨by first | omega | exact Nat.le_refl _⟩, by repeat (first | exact Drawn0.refl _ | apply Drawn0.step)⟩
    · rw [if_neg c5] at H
      have c5b0 : decide (a0 < 0) = false := decide_eq_false c5
      clear c5
      (first | rw [c5b0] | (simp only [i64_w, i32_w]; rw [c5b0]) | skip)
      by_cases c6 : a1 < 0
      · rw [if_pos c6] at H
        have c6b0 : decide (a1 < 0) = true := decide_eq_true c6
        clear c6
        have H' := Aside0.mk H
        clear H
        go_wp2
        go_meet
        case rel => exact ⟨_, (true), (by first | rfl | (simp; done) | (simp [*]; done)), H', ⟨by first | omega | exact Nat.le_refl _⟩, by repeat (first | exact Drawn0.refl _ | apply Drawn0.step)⟩
      · rw [if_neg c6] at H
        have c6b0 : decide (a1 < 0) = false := decide_eq_false c6
        clear c6
        by_cases c7 : a2 < 0
        · rw [if_pos c7] at H
          have c7b0 : decide (a2 < 0) = true := decide_eq_true c7
          clear c7
          have H' := Aside0.mk H
          clear H
          go_wp2
          go_meet
          case rel => exact ⟨_, (true), (by first | rfl | (simp; done) | (simp [*]; done)), H', ⟨by first | omega | exact Nat.le_refl _⟩, by repeat (first | exact Drawn0.refl _ | apply Drawn0.step)⟩
        · rw [if_neg c7] at H
          have c7b0 : decide (a2 < 0) = false := decide_eq_false c7
          clear c7
          by_cases c8 : a2 > 18
          · rw [if_pos c8] at H
            have c8b0 : decide (18 < a2) = true := decide_eq_true c8
            clear c8
            have H' := Aside0.mk H
            clear H
            go_wp2
            go_meet
            case rel => exact ⟨_, (true), (by first | rfl | (simp; done) | (simp [*]; done)), H', ⟨by first | omega | exact Nat.le_refl _⟩, by repeat (first | exact Drawn0.refl _ | apply Drawn0.step)⟩
          · rw [if_neg c8] at H
            have c8b0 : decide (18 < a2) = false := decide_eq_false c8
            clear c8
            replace H := Option.bind_eq_some_iff.mp H
            obtain ⟨t193, A90, H⟩ := H
            replace H : (dec_Join.j0 k a0 a1 a2 (decide (a1 ≥ t193))) = some (r1, r2, r3) := H
            have A9 := Aside0.mk A90
            clear A90
            have H' := Aside0.mk H
            clear H
            go_wp2_with (first | (go_at_call 114; (with_reducible refine (dec_ten.calls k a2 t193 _ A9.out).mono ?_); rintro e w' ⟨rfl, ⟨nd, rfl⟩⟩))
            go_meet
            case rel => exact ⟨_, (decide (a1 ≥ t193)), (by first | rfl | (simp; done) | (simp [*]; done)), H', ⟨by first | omega | exact Nat.le_refl _⟩, by repeat (first | exact Drawn0.refl _ | apply Drawn0.step)⟩
  case rest =>
    clear HC4
    try clear p2
    try clear c5
    try clear c5b0
    try clear c6
    try clear c6b0
    try clear c7
    try clear c7b0
    try clear c8
    try clear c8b0
    try clear c9
    obtain ⟨kq, x28_3, rfl, HA, HJ3, ⟨mc3, rfl⟩⟩ := hcut
    cases kq with
    | zero => exact absurd HA.out (by simp [dec_Join.j0])
    | succ kj3 =>
      have H := HA.out
      clear HA
      simp only [dec_Join.j0] at H
      by_cases c10 : x28_3 = true
      · subst c10
        have H1 : (some (0, 0, false)) = some (r1, r2, r3) := by rw [if_pos rfl] at H; exact H
        clear H
        have H := H1
        clear H1
        simp only [Option.some.injEq, Prod.mk.injEq] at H
        obtain ⟨rfl, rfl, rfl⟩ := H
        go_wp2
        go_ret3
        exact ⟨by first | rfl | (simp; done) | (simp [*]; done), by repeat (first | exact Drawn0.refl _ | apply Drawn0.step)⟩
      · replace c10 := Bool.eq_false_iff.mpr c10
        subst c10
        have H1 : ((dec_bound.f kj3).bind fun t194 => ((dec_ten.f kj3 a2).bind fun t195 => (if t195 = 0 then (none) else (if a0 > (wrap64 (Int.tdiv (wrap64 ((wrap64 (t194 - 1)) - a1)) t195)) then (some (0, 0, false)) else ((dec_ten.f kj3 a2).bind fun t196 => ((dec_Norm.f (wrap64 ((wrap64 (a0 * t196)) + a1)) a2).bind fun bt197 => (some (bt197.1, bt197.2, true)))))))) = some (r1, r2, r3) := by rw [if_neg (show ¬ (false = true) by decide)] at H; exact H
        clear H
        have H := H1
        clear H1
        replace H := Option.bind_eq_some_iff.mp H
        obtain ⟨t194, A110, H⟩ := H
        replace H : ((dec_ten.f kj3 a2).bind fun t195 => (if t195 = 0 then (none) else (if a0 > (wrap64 (Int.tdiv (wrap64 ((wrap64 (t194 - 1)) - a1)) t195)) then (some (0, 0, false)) else ((dec_ten.f kj3 a2).bind fun t196 => ((dec_Norm.f (wrap64 ((wrap64 (a0 * t196)) + a1)) a2).bind fun bt197 => (some (bt197.1, bt197.2, true))))))) = some (r1, r2, r3) := H
        have A11 := Aside0.mk A110
        clear A110
        replace H := Option.bind_eq_some_iff.mp H
        obtain ⟨t195, A120, H⟩ := H
        replace H : (if t195 = 0 then (none) else (if a0 > (wrap64 (Int.tdiv (wrap64 ((wrap64 (t194 - 1)) - a1)) t195)) then (some (0, 0, false)) else ((dec_ten.f kj3 a2).bind fun t196 => ((dec_Norm.f (wrap64 ((wrap64 (a0 * t196)) + a1)) a2).bind fun bt197 => (some (bt197.1, bt197.2, true)))))) = some (r1, r2, r3) := H
        have A12 := Aside0.mk A120
        clear A120
        by_cases c13 : t195 = 0
        · rw [if_pos c13] at H
          exact absurd H (by simp)
        · rw [if_neg c13] at H
          have c13b0 : (t195 == 0) = false := beq_eq_false_iff_ne.mpr c13
          have c13b1 : (t195 != 0) = true := bne_iff_ne.mpr c13
          by_cases c14 : a0 > (wrap64 (Int.tdiv (wrap64 ((wrap64 (t194 - 1)) - a1)) t195))
          · rw [if_pos c14] at H
            have c14b0 : decide ((wrap64 (Int.tdiv (wrap64 ((wrap64 (t194 - 1)) - a1)) t195)) < a0) = true := decide_eq_true c14
            clear c14
            simp only [Option.some.injEq, Prod.mk.injEq] at H
            obtain ⟨rfl, rfl, rfl⟩ := H
            go_wp2_with (first | ((with_reducible refine gate_callee (f := 115) rfl ?_); refine goesL_ (some 30) rfl rfl Try.func115 (by kernel_rfl) rfl #[] rfl (by (try simp only [List.map_toArray, List.map_cons, List.map_nil]); first | done | rfl | (simp only [List.length_drop, List.length_take]; rfl)) ?_; (with_reducible refine (dec_bound.calls kj3  t194 _ A11.out).mono ?_); rintro e w' ⟨rfl, ⟨nd, rfl⟩⟩; refine ⟨_, rfl, ?_⟩) | ((with_reducible refine gate_callee (f := 114) rfl ?_); refine goesL_ (some 35) rfl rfl Try.func114 (by kernel_rfl) rfl #[.int .i64 a2] rfl (by (try simp only [List.map_toArray, List.map_cons, List.map_nil]); first | done | rfl | (simp only [List.length_drop, List.length_take]; rfl)) ?_; (with_reducible refine (dec_ten.calls kj3 a2 t195 _ A12.out).mono ?_); rintro e w' ⟨rfl, ⟨nd, rfl⟩⟩; refine ⟨_, rfl, ?_⟩))
            go_ret3
            exact ⟨by first | rfl | (simp; done) | (simp [*]; done), by repeat (first | exact Drawn0.refl _ | apply Drawn0.step)⟩
          · rw [if_neg c14] at H
            have c14b0 : decide ((wrap64 (Int.tdiv (wrap64 ((wrap64 (t194 - 1)) - a1)) t195)) < a0) = false := decide_eq_false c14
            clear c14
            replace H := Option.bind_eq_some_iff.mp H
            obtain ⟨t196, A150, H⟩ := H
            replace H : ((dec_Norm.f (wrap64 ((wrap64 (a0 * t196)) + a1)) a2).bind fun bt197 => (some (bt197.1, bt197.2, true))) = some (r1, r2, r3) := H
            have A15 := Aside0.mk A150
            clear A150
            replace H := Option.bind_eq_some_iff.mp H
            obtain ⟨⟨t197, t198⟩, A160, H⟩ := H
            replace H : (some (t197, t198, true)) = some (r1, r2, r3) := H
            have A16 := Aside0.mk A160
            clear A160
            simp only [Option.some.injEq, Prod.mk.injEq] at H
            obtain ⟨rfl, rfl, rfl⟩ := H
            go_wp2_with (first | ((with_reducible refine gate_callee (f := 115) rfl ?_); refine goesL_ (some 30) rfl rfl Try.func115 (by kernel_rfl) rfl #[] rfl (by (try simp only [List.map_toArray, List.map_cons, List.map_nil]); first | done | rfl | (simp only [List.length_drop, List.length_take]; rfl)) ?_; (with_reducible refine (dec_bound.calls kj3  t194 _ A11.out).mono ?_); rintro e w' ⟨rfl, ⟨nd, rfl⟩⟩; refine ⟨_, rfl, ?_⟩) | ((with_reducible refine gate_callee (f := 114) rfl ?_); refine goesL_ (some 35) rfl rfl Try.func114 (by kernel_rfl) rfl #[.int .i64 a2] rfl (by (try simp only [List.map_toArray, List.map_cons, List.map_nil]); first | done | rfl | (simp only [List.length_drop, List.length_take]; rfl)) ?_; (with_reducible refine (dec_ten.calls kj3 a2 t195 _ A12.out).mono ?_); rintro e w' ⟨rfl, ⟨nd, rfl⟩⟩; refine ⟨_, rfl, ?_⟩) | ((with_reducible refine gate_callee (f := 114) rfl ?_); refine goesL_ (some 41) rfl rfl Try.func114 (by kernel_rfl) rfl #[.int .i64 a2] rfl (by (try simp only [List.map_toArray, List.map_cons, List.map_nil]); first | done | rfl | (simp only [List.length_drop, List.length_take]; rfl)) ?_; (with_reducible refine (dec_ten.calls kj3 a2 t196 _ A15.out).mono ?_); rintro e w' ⟨rfl, ⟨nd, rfl⟩⟩; refine ⟨_, rfl, ?_⟩) | ((with_reducible refine gate_callee (f := 86) rfl ?_); refine goesL_ (some 46) rfl rfl Try.func86 (by kernel_rfl) rfl #[.int .i64 (wrap64 ((wrap64 (a0 * t196)) + a1)), .int .i64 a2] rfl (by (try simp only [List.map_toArray, List.map_cons, List.map_nil]); first | done | rfl | (simp only [List.length_drop, List.length_take]; rfl)) ?_; (with_reducible refine (dec_Norm.calls (wrap64 ((wrap64 (a0 * t196)) + a1)) a2 t197 t198 _ A16.out).mono ?_); rintro e w' ⟨rfl, ⟨nd, rfl⟩⟩; refine ⟨_, rfl, ?_⟩))
            go_ret3
            exact ⟨by first | rfl | (simp; done) | (simp [*]; done), by repeat (first | exact Drawn0.refl _ | apply Drawn0.step)⟩

/-! ### act_maker_point: function 67 -/
-- 
theorem Env.kp {w W : World} {c0 c1 c2 c3 c4 c5 c6 c7 : Value} (h : Env w #[c0, c1, c2, c3, c4, c5, c6, c7] W) {ad1 ad2 : Addr} {u v : Value} (x1 : w.cell? ad1 = some u) (x2 : w.cell? ad2 = some v) : W.cell? ⟨w.heap.size, 0, none⟩ = some c0 ∧ W.cell? ⟨w.heap.size, 1, none⟩ = some c1 ∧ W.cell? ⟨w.heap.size, 2, none⟩ = some c2 ∧ W.cell? ⟨w.heap.size, 3, none⟩ = some c3 ∧ W.cell? ⟨w.heap.size, 4, none⟩ = some c4 ∧ W.cell? ⟨w.heap.size, 5, none⟩ = some c5 ∧ W.cell? ⟨w.heap.size, 6, none⟩ = some c6 ∧ W.cell? ⟨w.heap.size, 7, none⟩ = some c7 ∧ W.cell? ad1 = some u ∧ W.cell? ad2 = some v :=
  ⟨h.k8.1, h.k8.2.1, h.k8.2.2.1, h.k8.2.2.2.1, h.k8.2.2.2.2.1, h.k8.2.2.2.2.2.1, h.k8.2.2.2.2.2.2.1, h.k8.2.2.2.2.2.2.2, pw_cell_below h.below x1, pw_cell_below h.below x2⟩
theorem Env.kps {w W : World} {c0 c1 c2 c3 c4 c5 c6 c7 : Value} (h : Env w #[c0, c1, c2, c3, c4, c5, c6, c7] W) {ad1 ad2 : Addr} {u v p q : Value} (x1 : w.cell? ad1 = some u) (x2 : w.cell? ad2 = some v) : let W' := (W.setCell ⟨w.heap.size + 1, 0, none⟩ p).setCell ⟨w.heap.size + 1, 1, none⟩ q; W'.cell? ⟨w.heap.size, 0, none⟩ = some c0 ∧ W'.cell? ⟨w.heap.size, 1, none⟩ = some c1 ∧ W'.cell? ⟨w.heap.size, 2, none⟩ = some c2 ∧ W'.cell? ⟨w.heap.size, 3, none⟩ = some c3 ∧ W'.cell? ⟨w.heap.size, 4, none⟩ = some c4 ∧ W'.cell? ⟨w.heap.size, 5, none⟩ = some c5 ∧ W'.cell? ⟨w.heap.size, 6, none⟩ = some c6 ∧ W'.cell? ⟨w.heap.size, 7, none⟩ = some c7 ∧ W'.cell? ad1 = some u ∧ W'.cell? ad2 = some v := by
  intro W'
  have kb : W'.heap[w.heap.size]? = some (.cells #[c0, c1, c2, c3, c4, c5, c6, c7] 62 (0, 0)) := blk_far (blk_far h.kb (by simp) p) (by simp) q
  have hb : Below w.heap.size w W' := below_set (below_set h.below (by omega)) (by omega)
  exact ⟨(blk_cell kb 0).trans rfl, (blk_cell kb 1).trans rfl, (blk_cell kb 2).trans rfl, (blk_cell kb 3).trans rfl, (blk_cell kb 4).trans rfl, (blk_cell kb 5).trans rfl, (blk_cell kb 6).trans rfl, (blk_cell kb 7).trans rfl, pw_cell_below hb x1, pw_cell_below hb x2⟩
set_option maxHeartbeats 2000000 in
set_option maxRecDepth 100000 in
theorem point_ok (op : Int) (A : Option Addr) (n c : Nat) (y m d h i s : Int) (a b r1 r2 : Int) (ad : Addr) (p q : Int) (n1 c1 : Nat) (hn1 : 1 < n1) (w : World) (x0 : w.cell? ad = some (.int .i64 p)) (x1 : w.cell? ⟨ad.block, ad.off + 1, none⟩ = some (.int .i64 q))
    (h1 : ∀ W, Below w.heap.size w W → Calls Try.prog 91 #[.agg #[.int .i64 op, .slice A n c, .int .i64 y, .int .i64 m, .int .i64 d, .int .i64 h, .int .i64 i, .int .i64 s], .int .i64 0] W fun e w' => e = .returned (.int .i64 a) ∧ Below W.heap.size W w')
    (h2 : ∀ W, Below w.heap.size w W → Calls Try.prog 91 #[.agg #[.int .i64 op, .slice A n c, .int .i64 y, .int .i64 m, .int .i64 d, .int .i64 h, .int .i64 i, .int .i64 s], .int .i64 1] W fun e w' => e = .returned (.int .i64 b) ∧ Below W.heap.size W w')
    (h3 : ∀ W, Below w.heap.size w W → Calls Try.prog 95 #[.agg #[.int .i64 op, .slice A n c, .int .i64 y, .int .i64 m, .int .i64 d, .int .i64 h, .int .i64 i, .int .i64 s], .int .i64 1, .int .i64 1] W fun e w' => e = .returned (.slice (some ad) n1 c1) ∧ Below W.heap.size W w')
    (h4 : ∀ W, Calls Try.prog 99 #[.int .i64 a, .int .i64 b, .int .i64 q] W fun e' w' => e' = .returned (.tuple #[.int .i64 r1, .int .i64 r2, .bool true]) ∧ Below W.heap.size W w') :
    Calls Try.prog 67 #[.agg #[.int .i64 op, .slice A n c, .int .i64 y, .int .i64 m, .int .i64 d, .int .i64 h, .int .i64 i, .int .i64 s]] w (Makes w 7 [r1, r2]) := by
  have g1 := Aside0.mk h1
  have g2 := Aside0.mk h2
  have g3 := Aside0.mk h3
  have g4 := Aside0.mk h4
  clear h1 h2 h3 h4
  have X0 := Aside0.mk x0
  have X1 := Aside0.mk x1
  have e1 : decide (1 < n1) = true := decide_eq_true hn1
  have e0 : decide (0 < n1) = true := decide_eq_true (by omega)
  have q1 : ((1 : Int) < (n1 : Int)) = True := eq_true (by omega)
  have q0 : ((0 : Int) < (n1 : Int)) = True := eq_true (by omega)
  have qi1 : (1 < n1) = True := eq_true hn1
  have qi0 : (0 < n1) = True := eq_true (by omega)
  clear x0 x1 hn1
  have HE := Aside0.mk (Env.start w #[.int .i64 op, .slice A n c, .int .i64 y, .int .i64 m, .int .i64 d, .int .i64 h, .int .i64 i, .int .i64 s])
  go_enter Try.func67, Try.ntmps67
  go_wp2_with fail
  go_region_held3 (fun w' => w'.cell? ⟨w.heap.size, 0, none⟩ = some (.int .i64 op) ∧ w'.cell? ⟨w.heap.size, 1, none⟩ = some (.slice A n c) ∧ w'.cell? ⟨w.heap.size, 2, none⟩ = some (.int .i64 y) ∧ w'.cell? ⟨w.heap.size, 3, none⟩ = some (.int .i64 m) ∧ w'.cell? ⟨w.heap.size, 4, none⟩ = some (.int .i64 d) ∧ w'.cell? ⟨w.heap.size, 5, none⟩ = some (.int .i64 h) ∧ w'.cell? ⟨w.heap.size, 6, none⟩ = some (.int .i64 i) ∧ w'.cell? ⟨w.heap.size, 7, none⟩ = some (.int .i64 s) ∧ w'.cell? ad = some (.int .i64 p) ∧ w'.cell? ⟨ad.block, ad.off + 1, none⟩ = some (.int .i64 q)) ((first | exact Env.kps HE.out X0.out X1.out | (go_keep; done) | exact Env.kp (by repeat (first | exact HE.out | apply Env.alloc | apply Env.drewN | apply Env.drew)) X0.out X1.out)) (first | (go_at_call 91; (with_reducible refine (g1.out _ ?_).mono ?_); (· exact Env.below (kc := #[.int .i64 op, .slice A n c, .int .i64 y, .int .i64 m, .int .i64 d, .int .i64 h, .int .i64 i, .int .i64 s]) (by repeat (first | exact HE.out | apply Env.alloc | apply Env.drewN | apply Env.drew))); rintro e w1 ⟨rfl, hb⟩; have HEn := Aside0.mk (Env.then_ (by repeat (first | exact HE.out | apply Env.alloc | apply Env.drewN | apply Env.drew)) hb); clear HE; have HE := HEn; clear HEn; clear hb) | (go_at_call 91; (with_reducible refine (g2.out _ ?_).mono ?_); (· exact Env.below (kc := #[.int .i64 op, .slice A n c, .int .i64 y, .int .i64 m, .int .i64 d, .int .i64 h, .int .i64 i, .int .i64 s]) (by repeat (first | exact HE.out | apply Env.alloc | apply Env.drewN | apply Env.drew))); rintro e w2 ⟨rfl, hb⟩; have HEn := Aside0.mk (Env.then_ (by repeat (first | exact HE.out | apply Env.alloc | apply Env.drewN | apply Env.drew)) hb); clear HE; have HE := HEn; clear HEn; clear hb) | (go_at_call 95; (with_reducible refine (g3.out _ ?_).mono ?_); (· exact Env.below (kc := #[.int .i64 op, .slice A n c, .int .i64 y, .int .i64 m, .int .i64 d, .int .i64 h, .int .i64 i, .int .i64 s]) (by repeat (first | exact HE.out | apply Env.alloc | apply Env.drewN | apply Env.drew))); rintro e w3 ⟨rfl, hb⟩; have HEn := Aside0.mk (Env.then_ (by repeat (first | exact HE.out | apply Env.alloc | apply Env.drewN | apply Env.drew)) hb); clear HE; have HE := HEn; clear HEn; clear hb) | (go_at_call 99; (with_reducible refine (g4.out _).mono ?_); rintro e w5 ⟨rfl, hb⟩; have HEn := Aside0.mk (Env.then_ (by repeat (first | exact HE.out | apply Env.alloc | apply Env.drewN | apply Env.drew)) hb); clear HE; have HE := HEn; clear HEn; clear hb))
  obtain ⟨k0, k1, k2, k3, k4, k5, k6, k7⟩ := Env.k8 HE.out
  go_wp2_with (first | (go_at_call 39; (with_reducible refine calls_any (Env w #[.int .i64 op, .slice A n c, .int .i64 y, .int .i64 m, .int .i64 d, .int .i64 h, .int .i64 i, .int .i64 s]) (by repeat (first | exact HE.out | apply Env.alloc | apply Env.drewN | apply Env.drew)) ?_); intro Wm hE; refine (act_must.calls true _ _ rfl).mono ?_; rintro e w3 ⟨rfl, ⟨nd, rfl⟩⟩; have HEn := Aside0.mk (Env.drewN hE nd); clear HE hE; generalize Wm.drewN nd = wm at *; have HE := HEn; clear HEn; obtain ⟨k0, k1, k2, k3, k4, k5, k6, k7⟩ := Env.k8 HE.out) | (go_at_call 40; refine (value_ok 7 _ _ [r1, r2] _ (C_new _ [r1, r2] (by simp)) (Nat.le_refl _) (by simp)).mono ?_; rintro e w8 ⟨A3, c3, rfl, hc3, hR, hb3⟩; have HV := Aside0.mk HE.out; have HR := Aside0.mk hR; have HB3 := Aside0.mk hb3; have HEn := Aside0.mk ((HV.out.alloc _).then_ hb3); clear HE hR hb3; obtain ⟨z0, z1, z2, z3⟩ := Env.r2 HEn.out))
  refine bodyPost_ret (v := .agg #[.int .i64 7, .slice A3 _ c3]) (by simp [results, Try.results67, go_sem, z0, z1, z2, z3]) rfl (makes_end HV.out HB3.out hc3 HR.out _ _)
def act_maker_point.f (k : Nat) (a0_0 : Int) (l0_1 : List (S27)) (a0_2 a0_3 a0_4 a0_5 a0_6 a0_7 : Int) : Option (Int × List Int) :=
  (act_maker_number.f a0_0 l0_1 a0_2 a0_3 a0_4 a0_5 a0_6 a0_7 0).bind fun a => (act_maker_number.f a0_0 l0_1 a0_2 a0_3 a0_4 a0_5 a0_6 a0_7 1).bind fun b => if 2 ≤ l0_1.length ∧ (rd_T27 l0_1 1).f0 = 1 ∧ 2 ≤ (rd_T27 l0_1 1).f1.length then (dec_Join.f k a b (rd (rd_T27 l0_1 1).f1 1)).bind fun t => if t.2.2 = true then some (7, [t.1, t.2.1]) else none else none
theorem act_maker_point.mono : ∀ a0 a1 a2 a3 a4 a5 a6 a7 k, LeO (act_maker_point.f k a0 a1 a2 a3 a4 a5 a6 a7) (act_maker_point.f (k + 1) a0 a1 a2 a3 a4 a5 a6 a7) := by
  intro a0 a1 a2 a3 a4 a5 a6 a7 k
  unfold act_maker_point.f
  refine LeO.bind (LeO.refl _) (fun _ => LeO.bind (LeO.refl _) (fun _ => LeO.ite (LeO.bind (dec_Join.mono _ _ _ _) (fun _ => LeO.refl _)) (LeO.refl _)))
theorem act_maker_point.calls (k : Nat) (a0_0 : Int) (A0_1 : Option Addr) (c0_1 : Nat) (l0_1 : List (S27)) (a0_2 a0_3 a0_4 a0_5 a0_6 a0_7 : Int) (r1 : Int) (r2 : List Int) (w : World) (hr0_1 : Kd.C k27 w A0_1 l0_1.length l0_1) (hc0_1 : l0_1.length ≤ c0_1) (h : act_maker_point.f k a0_0 l0_1 a0_2 a0_3 a0_4 a0_5 a0_6 a0_7 = some (r1, r2)) :
    Calls Try.prog 67 #[.agg #[.int .i64 a0_0, .slice A0_1 l0_1.length c0_1, .int .i64 a0_2, .int .i64 a0_3, .int .i64 a0_4, .int .i64 a0_5, .int .i64 a0_6, .int .i64 a0_7]] w fun e w' => ∃ v1_ : Value, e = .returned (.agg #[.int .i64 r1, v1_]) ∧ Kd.R (Kd.int .i64) 3 w' w.heap.size (fun _ => True) v1_ r2 ∧ Below w.heap.size w w' := by
  unfold act_maker_point.f at h
  obtain ⟨a, ha, h⟩ := Option.bind_eq_some_iff.mp h
  obtain ⟨b, hb, h⟩ := Option.bind_eq_some_iff.mp h
  split at h
  case isFalse => cases h
  case isTrue hc =>
    obtain ⟨t, ht, h⟩ := Option.bind_eq_some_iff.mp h
    obtain ⟨t1, t2, t3⟩ := t
    have hc1 := hc.1
    have hc2 := hc.2.2
    split at h
    case isFalse => cases h
    case isTrue hb3 =>
    obtain rfl : t3 = true := hb3
    have h := Option.some.inj h
    simp only [Prod.mk.injEq] at h
    obtain ⟨rfl, rfl⟩ := h
    obtain ⟨ad, A1, c1, hA, x0, x1, _, C1⟩ := at_T27 hr0_1 1 (by omega) (by omega)
    obtain ⟨b1, rfl, z0⟩ := Kd.at_int C1 0 (by omega) (by omega)
    obtain ⟨b2, e2, z1⟩ := Kd.at_int C1 1 (by omega) (by omega)
    obtain rfl := Option.some.inj e2
    have y0 : w.cell? b1 = some (.int .i64 (rd (rd_T27 l0_1 1).f1 0)) := by simpa [Addr.add] using z0
    have y1 : w.cell? ⟨b1.block, b1.off + 1, none⟩ = some (.int .i64 (rd (rd_T27 l0_1 1).f1 1)) := by simpa [Addr.add] using z1
    have ho := fun W (hB : Below w.heap.size w W) => of_at a0_0 A0_1 c0_1 l0_1 a0_2 a0_3 a0_4 a0_5 a0_6 a0_7 1 1 W ad (some b1) c1 hA (pw_cell_below hB x0) (pw_cell_below hB x1) (by omega) (by omega) hc.2.1
    refine (point_ok a0_0 A0_1 l0_1.length c0_1 a0_2 a0_3 a0_4 a0_5 a0_6 a0_7 a b t1 t2 b1 _ _ _ c1 (by omega) w y0 y1
      (fun W hB => act_maker_number.calls a0_0 A0_1 c0_1 l0_1 a0_2 a0_3 a0_4 a0_5 a0_6 a0_7 0 a W (Kd.C_below hr0_1 hB) hc0_1 ha)
      (fun W hB => act_maker_number.calls a0_0 A0_1 c0_1 l0_1 a0_2 a0_3 a0_4 a0_5 a0_6 a0_7 1 b W (Kd.C_below hr0_1 hB) hc0_1 hb)
      ho (fun W => (dec_Join.calls k a b _ t1 t2 true W ht).mono (fun e w' hh => ⟨hh.1, by obtain ⟨_, ⟨nd, rfl⟩⟩ := hh; exact pw_below_drewN (Below.refl _ _) nd⟩))).mono ?_
    rintro e w' ⟨A3, c3, rfl, _, hR, hB⟩
    exact ⟨_, rfl, hR, hB⟩


/-! ### act_maker_negative: function 69 -/
set_option maxHeartbeats 2000000 in
set_option maxRecDepth 100000 in
theorem neg_ok (op : Int) (A : Option Addr) (n c : Nat) (y m d h i s : Int) (ad : Addr) (p q : Int) (n1 c1 : Nat) (hn1 : 1 < n1) (w : World) (x0 : w.cell? ad = some (.int .i64 p)) (x1 : w.cell? ⟨ad.block, ad.off + 1, none⟩ = some (.int .i64 q))
    (h1 : ∀ W, Below w.heap.size w W → Calls Try.prog 95 #[.agg #[.int .i64 op, .slice A n c, .int .i64 y, .int .i64 m, .int .i64 d, .int .i64 h, .int .i64 i, .int .i64 s], .int .i64 0, .int .i64 7] W fun e w' => e = .returned (.slice (some ad) n1 c1) ∧ Below W.heap.size W w') :
    Calls Try.prog 69 #[.agg #[.int .i64 op, .slice A n c, .int .i64 y, .int .i64 m, .int .i64 d, .int .i64 h, .int .i64 i, .int .i64 s]] w (Makes w 7 [wrap64 (-p), q]) := by
  have g1 := Aside0.mk h1
  clear h1
  have X0 := Aside0.mk x0
  have X1 := Aside0.mk x1
  have e1 : decide (1 < n1) = true := decide_eq_true hn1
  have e0 : decide (0 < n1) = true := decide_eq_true (by omega)
  have q1 : ((1 : Int) < (n1 : Int)) = True := eq_true (by omega)
  have q0 : ((0 : Int) < (n1 : Int)) = True := eq_true (by omega)
  have qi1 : (1 < n1) = True := eq_true hn1
  have qi0 : (0 < n1) = True := eq_true (by omega)
  clear x0 x1 hn1
  have HE := Aside0.mk (Env.start w #[.int .i64 op, .slice A n c, .int .i64 y, .int .i64 m, .int .i64 d, .int .i64 h, .int .i64 i, .int .i64 s])
  go_enter Try.func69, Try.ntmps69
  go_wp2_with (first | (go_at_call 95; (with_reducible refine calls_any (Env w #[.int .i64 op, .slice A n c, .int .i64 y, .int .i64 m, .int .i64 d, .int .i64 h, .int .i64 i, .int .i64 s]) (by repeat (first | exact HE.out | apply Env.alloc | apply Env.drewN | apply Env.drew)) ?_); intro W1 hE; (with_reducible refine (g1.out _ hE.below).mono ?_); rintro e w1 ⟨rfl, hb⟩; have HEn := Aside0.mk (Env.then_ hE hb); clear HE hE hb; have HE := HEn; clear HEn; obtain ⟨k0, k1, k2, k3, k4, k5, k6, k7, y0, y1⟩ := Env.kp HE.out X0.out X1.out))
  go_region_held3 (fun w' => w'.cell? ⟨w.heap.size, 0, none⟩ = some (.int .i64 op) ∧ w'.cell? ⟨w.heap.size, 1, none⟩ = some (.slice A n c) ∧ w'.cell? ⟨w.heap.size, 2, none⟩ = some (.int .i64 y) ∧ w'.cell? ⟨w.heap.size, 3, none⟩ = some (.int .i64 m) ∧ w'.cell? ⟨w.heap.size, 4, none⟩ = some (.int .i64 d) ∧ w'.cell? ⟨w.heap.size, 5, none⟩ = some (.int .i64 h) ∧ w'.cell? ⟨w.heap.size, 6, none⟩ = some (.int .i64 i) ∧ w'.cell? ⟨w.heap.size, 7, none⟩ = some (.int .i64 s) ∧ w'.cell? ad = some (.int .i64 p) ∧ w'.cell? ⟨ad.block, ad.off + 1, none⟩ = some (.int .i64 q)) ((first | exact Env.kps HE.out X0.out X1.out | (go_keep; done) | exact Env.kp (by repeat (first | exact HE.out | apply Env.alloc | apply Env.drewN | apply Env.drew)) X0.out X1.out)) (first | (go_at_call 40; (try simp only [i64_w]); refine (value_ok 7 _ _ [wrap64 (-p), q] _ (Kd.C_below (C_new _ [wrap64 (-p), q] (by simp)) (below_drew (Below.refl _ _))) (Nat.le_refl _) (by simp)).mono ?_; rintro e w3 ⟨A3, c3, rfl, hc3, hR, hb3⟩; have HV := Aside0.mk (Env.drew (HE.out.alloc (.cells (List.map (Value.int .i64) [wrap64 (-p), q]).toArray 3))); have HR := Aside0.mk hR; have HB3 := Aside0.mk hb3; have HEn := Aside0.mk (Env.then_ HV.out hb3); clear HE; have HE := HEn; clear HEn; clear hR hb3; obtain ⟨z0, z1, z2, z3⟩ := Env.r2 HE.out))
  go_wp2_with fail
  refine bodyPost_ret (v := .agg #[.int .i64 7, .slice A3 _ c3]) (by simp [results, Try.results69, go_sem, z0, z1, z2, z3]) rfl (makes_end0 HV.out HB3.out hc3 HR.out _ _)
def act_maker_negative.f (a0_0 : Int) (l0_1 : List (S27)) (a0_2 a0_3 a0_4 a0_5 a0_6 a0_7 : Int) : Option (Int × List Int) :=
  if 1 ≤ l0_1.length ∧ (rd_T27 l0_1 0).f0 = 7 ∧ 2 ≤ (rd_T27 l0_1 0).f1.length then some (7, [wrap64 (-(rd (rd_T27 l0_1 0).f1 0)), rd (rd_T27 l0_1 0).f1 1]) else none
theorem act_maker_negative.calls (a0_0 : Int) (A0_1 : Option Addr) (c0_1 : Nat) (l0_1 : List (S27)) (a0_2 a0_3 a0_4 a0_5 a0_6 a0_7 : Int) (r1 : Int) (r2 : List Int) (w : World) (hr0_1 : Kd.C k27 w A0_1 l0_1.length l0_1) (hc0_1 : l0_1.length ≤ c0_1) (h : act_maker_negative.f a0_0 l0_1 a0_2 a0_3 a0_4 a0_5 a0_6 a0_7 = some (r1, r2)) :
    Calls Try.prog 69 #[.agg #[.int .i64 a0_0, .slice A0_1 l0_1.length c0_1, .int .i64 a0_2, .int .i64 a0_3, .int .i64 a0_4, .int .i64 a0_5, .int .i64 a0_6, .int .i64 a0_7]] w fun e w' => ∃ v1_ : Value, e = .returned (.agg #[.int .i64 r1, v1_]) ∧ Kd.R (Kd.int .i64) 3 w' w.heap.size (fun _ => True) v1_ r2 ∧ Below w.heap.size w w' := by
  unfold act_maker_negative.f at h
  split at h
  case isFalse => cases h
  case isTrue hc =>
    have hc1 := hc.1
    have hc2 := hc.2.2
    have h := Option.some.inj h
    simp only [Prod.mk.injEq] at h
    obtain ⟨rfl, rfl⟩ := h
    obtain ⟨ad, A1, c1, hA, x0, x1, _, C1⟩ := at_T27 hr0_1 0 (by omega) (by omega)
    obtain ⟨b1, rfl, z0⟩ := Kd.at_int C1 0 (by omega) (by omega)
    obtain ⟨b2, e2, z1⟩ := Kd.at_int C1 1 (by omega) (by omega)
    obtain rfl := Option.some.inj e2
    have y0 : w.cell? b1 = some (.int .i64 (rd (rd_T27 l0_1 0).f1 0)) := by simpa [Addr.add] using z0
    have y1 : w.cell? ⟨b1.block, b1.off + 1, none⟩ = some (.int .i64 (rd (rd_T27 l0_1 0).f1 1)) := by simpa [Addr.add] using z1
    have ho := fun W (hB : Below w.heap.size w W) => of_at a0_0 A0_1 c0_1 l0_1 a0_2 a0_3 a0_4 a0_5 a0_6 a0_7 0 7 W ad (some b1) c1 hA (pw_cell_below hB x0) (pw_cell_below hB x1) (by omega) (by omega) hc.2.1
    refine (neg_ok a0_0 A0_1 l0_1.length c0_1 a0_2 a0_3 a0_4 a0_5 a0_6 a0_7 b1 _ _ _ c1 (by omega) w y0 y1 ho).mono ?_
    rintro e w' ⟨A3, c3, rfl, _, hR, hB⟩
    exact ⟨_, rfl, hR, hB⟩


end Go.Proofs.Ytldfljlklfhjkaa.PPt
