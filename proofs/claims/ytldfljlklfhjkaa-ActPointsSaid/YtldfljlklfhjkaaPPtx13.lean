/- Each call of a function that is printed here answers what its plain Lean function answers; written by a program of this session (wip/myprint.py) over the kit's print. Conditions: that the plain function answers. -/
import Derived.Test.YtldfljlklfhjkaaPPtx0
import Derived.Test.YtldfljlklfhjkaaVNEvB
import Derived.Test.YtldfljlklfhjkaaVFourB
import Derived.Test.YtldfljlklfhjkaaPPtx10
import Derived.Test.YtldfljlklfhjkaaPPtx11
import Derived.Test.YtldfljlklfhjkaaPPtx12
namespace Go.Proofs.Ytldfljlklfhjkaa.PPt
open Go.RowKit Go.Proofs.YtldfljlklfhjkaaW.PrintWords Go.Proofs.YtldfljlklfhjkaaW.PrintLast Go.Proofs.YtldfljlklfhjkaaW.PrintMore
attribute [local go_sem] max2_int min2_int max_two min_two max_three min_three max_four min_four   -- for this text's walks alone
set_option linter.unusedVariables false
set_option linter.unusedSimpArgs false

/-! ### interlocutorlaw8_ActPoints: function 16 -/
mutual
def interlocutorlaw8_ActPoints.j1 : Nat → Int → Bool → Int → Int → Int → List Int → Option (Bool)
 | 0, _, _, _, _, _, _ => none
 | k + 1, x3, x15, x16, x17, x262000, x262001 => (interlocutorlaw8_Ref.f x3).bind fun bt268 => ((act_Do.f k 11 (([0] : List Int)) (([(⟨x262000, x262001⟩ : S27)] : List (S27))) bt268.1 bt268.2.1 bt268.2.2.1 bt268.2.2.2.1 bt268.2.2.2.2.1 bt268.2.2.2.2.2).bind fun bt274 => (if x15 = true then (if bt274.2.2 = true then ((interlocutorref10_Cmp.f k x262000 x262001 7 (([x16, x17] : List Int))).bind fun t283 => (if t283 = 0 then ((interlocutorref10_Cmp.f k bt274.1 bt274.2.1 7 (([wrap64 (-x16), x17] : List Int))).bind fun t287 => (some (t287 == 0))) else (some false))) else (some false)) else (some false)))
def interlocutorlaw8_ActPoints.l0 : Nat → Int → Bool → Int → Int → Int → List Int → Option (Bool)
 | 0, _, _, _, _, _, _ => none
 | k + 1, x3, x15, x16, x17, x262000, x262001 => if x17 > 0 then (if (Int.tmod x16 10) = 0 then (interlocutorlaw8_ActPoints.l0 k x3 x15 (wrap64 (Int.tdiv x16 10)) (wrap64 (x17 - 1)) x262000 x262001) else (interlocutorlaw8_ActPoints.j1 k x3 x15 x16 x17 x262000 x262001)) else (interlocutorlaw8_ActPoints.j1 k x3 x15 x16 x17 x262000 x262001)
end
def interlocutorlaw8_ActPoints.f (k : Nat) (a0 : Int) (a1 : Int) (a2 : Int) (a3 : Int) : Option (Bool) := (interlocutorlaw8_known.f).bind fun t230 => (if t230 = true then ((interlocutorlaw8_within.f a2 6).bind fun t231 => ((some (([10, 100, 1000, 10000, 100000, 1000000] : List Int) : List Int)).bind fun y232 => (if 0 ≤ (wrap64 ((wrap64 (1 + t231)) - 1)) then (if (wrap64 ((wrap64 (1 + t231)) - 1)) < (y232.length : Int) then ((interlocutorlaw8_within.f a0 1073741824).bind fun t236 => ((interlocutorlaw8_within.f a1 (rd y232 (wrap64 ((wrap64 (1 + t231)) - 1)))).bind fun t237 => ((interlocutorlaw8_Ref.f a3).bind fun bt250 => ((act_Do.f k 9 (([0, 1] : List Int)) (([(⟨1, (([t236, 10] : List Int))⟩ : S27), (⟨1, (([t237, wrap64 (1 + t231)] : List Int))⟩ : S27)] : List (S27))) bt250.1 bt250.2.1 bt250.2.2.1 bt250.2.2.2.1 bt250.2.2.2.2.1 bt250.2.2.2.2.2).bind fun bt256 => (interlocutorlaw8_ActPoints.l0 k a3 bt256.2.2 (wrap64 ((wrap64 (t236 * (rd y232 (wrap64 ((wrap64 (1 + t231)) - 1))))) + t237)) (wrap64 (1 + t231)) bt256.1 bt256.2.1))))) else (none)) else (none)))) else (some false))
theorem interlocutorlaw8_ActPoints.mono_l : ∀ k, (∀ y0 y1 y2 y3 y4 y5, LeO (interlocutorlaw8_ActPoints.j1 k y0 y1 y2 y3 y4 y5) (interlocutorlaw8_ActPoints.j1 (k + 1) y0 y1 y2 y3 y4 y5)) ∧ (∀ y0 y1 y2 y3 y4 y5, LeO (interlocutorlaw8_ActPoints.l0 k y0 y1 y2 y3 y4 y5) (interlocutorlaw8_ActPoints.l0 (k + 1) y0 y1 y2 y3 y4 y5))
 | 0 => ⟨fun _ _ _ _ _ _ r h => by simp [interlocutorlaw8_ActPoints.j1] at h, fun _ _ _ _ _ _ r h => by simp [interlocutorlaw8_ActPoints.l0] at h⟩
 | k + 1 => by
  obtain ⟨ih0, ih1⟩ := interlocutorlaw8_ActPoints.mono_l k
  refine ⟨?_, ?_⟩
  ·
   intro y0 y1 y2 y3 y4 y5
   unfold interlocutorlaw8_ActPoints.j1
   repeat' first
   | (with_reducible exact ih0 _ _ _ _ _ _)
   | (with_reducible exact ih1 _ _ _ _ _ _)
   | (with_reducible exact act_Do.mono _ _ _ _ _ _ _ _ _ _)
   | (with_reducible exact interlocutorref10_Cmp.mono _ _ _ _ _)
   | (with_reducible exact LeO.refl _)
   | (with_reducible exact LeO.none _)
   | (with_reducible refine LeO.ite ?_ ?_)
   | (with_reducible refine LeO.bind ?_ (fun _ => ?_))
   | exact ih0 _ _ _ _ _ _
   | exact ih1 _ _ _ _ _ _
   | exact act_Do.mono _ _ _ _ _ _ _ _ _ _
   | exact interlocutorref10_Cmp.mono _ _ _ _ _
   | exact LeO.none _
   | refine LeO.ite ?_ ?_
   | refine LeO.bind ?_ (fun _ => ?_)
  ·
   intro y0 y1 y2 y3 y4 y5
   unfold interlocutorlaw8_ActPoints.l0
   repeat' first
   | (with_reducible exact ih0 _ _ _ _ _ _)
   | (with_reducible exact ih1 _ _ _ _ _ _)
   | (with_reducible exact act_Do.mono _ _ _ _ _ _ _ _ _ _)
   | (with_reducible exact interlocutorref10_Cmp.mono _ _ _ _ _)
   | (with_reducible exact LeO.refl _)
   | (with_reducible exact LeO.none _)
   | (with_reducible refine LeO.ite ?_ ?_)
   | (with_reducible refine LeO.bind ?_ (fun _ => ?_))
   | exact ih0 _ _ _ _ _ _
   | exact ih1 _ _ _ _ _ _
   | exact act_Do.mono _ _ _ _ _ _ _ _ _ _
   | exact interlocutorref10_Cmp.mono _ _ _ _ _
   | exact LeO.none _
   | refine LeO.ite ?_ ?_
   | refine LeO.bind ?_ (fun _ => ?_)
theorem interlocutorlaw8_ActPoints.mono : ∀ a0 a1 a2 a3 k, LeO (interlocutorlaw8_ActPoints.f k a0 a1 a2 a3) (interlocutorlaw8_ActPoints.f (k + 1) a0 a1 a2 a3) := by
 intro a0 a1 a2 a3 k
 obtain ⟨ih0, ih1⟩ := interlocutorlaw8_ActPoints.mono_l k
 unfold interlocutorlaw8_ActPoints.f
 repeat' first
   | (with_reducible exact ih0 _ _ _ _ _ _)
   | (with_reducible exact ih1 _ _ _ _ _ _)
   | (with_reducible exact act_Do.mono _ _ _ _ _ _ _ _ _ _)
   | (with_reducible exact interlocutorref10_Cmp.mono _ _ _ _ _)
   | (with_reducible exact LeO.refl _)
   | (with_reducible exact LeO.none _)
   | (with_reducible refine LeO.ite ?_ ?_)
   | (with_reducible refine LeO.bind ?_ (fun _ => ?_))
   | exact ih0 _ _ _ _ _ _
   | exact ih1 _ _ _ _ _ _
   | exact act_Do.mono _ _ _ _ _ _ _ _ _ _
   | exact interlocutorref10_Cmp.mono _ _ _ _ _
   | exact LeO.none _
   | refine LeO.ite ?_ ?_
   | refine LeO.bind ?_ (fun _ => ?_)
def interlocutorlaw8_ActPoints.T11 : Bool × List (List Nat × List Nat) := (true, [([], []), ([0], [0]), ([], []), ([2], [2]), ([], []), ([4], [4]), ([1, 3, 5, 5], [1, 3, 5]), ([6], [6]), ([7], [7]), ([7], [7]), ([], []), ([10, 8, 6, 0, 1, 2, 3, 4, 5, 6, 7, 8, 10], [8, 10]), ([9, 11, 0, 1, 2, 3, 4, 5, 6, 7, 8, 9, 10, 11], [9])])
def interlocutorlaw8_ActPoints.B11 : List Nat := [0, 1, 0, 4, 0, 16, 63, 127, 255, 255, 0, 1535, 4095]
theorem interlocutorlaw8_ActPoints.tab11 : rtab .any (opsOf Try.f16 11) = interlocutorlaw8_ActPoints.T11 := by kernel_rfl
theorem interlocutorlaw8_ActPoints.bits11 : waitsOk interlocutorlaw8_ActPoints.T11.2 interlocutorlaw8_ActPoints.B11 = true := by kernel_rfl
set_option maxHeartbeats 8000000 in
set_option maxRecDepth 100000 in
theorem interlocutorlaw8_ActPoints.calls (k : Nat) (a0 : Int) (a1 : Int) (a2 : Int) (a3 : Int) (r : Bool) (w : World) (h : interlocutorlaw8_ActPoints.f k a0 a1 a2 a3 = some r) (hr1 : r = true) :
  Calls Try.prog 16 #[.int .i64 a0, .int .i64 a1, .int .i64 a2, .int .i64 a3] w fun e w' => e = .returned (.bool r) ∧ Below w.heap.size w w' := by
 have hu27 := Try.underlying27
 have hu30 := Try.underlying30
 have HB := Aside0.mk (Below.refl w.heap.size w)
 have H : ((interlocutorlaw8_known.f).bind fun t230 => (if t230 = true then ((interlocutorlaw8_within.f a2 6).bind fun t231 => ((some (([10, 100, 1000, 10000, 100000, 1000000] : List Int) : List Int)).bind fun y232 => (if 0 ≤ (wrap64 ((wrap64 (1 + t231)) - 1)) then (if (wrap64 ((wrap64 (1 + t231)) - 1)) < (y232.length : Int) then ((interlocutorlaw8_within.f a0 1073741824).bind fun t236 => ((interlocutorlaw8_within.f a1 (rd y232 (wrap64 ((wrap64 (1 + t231)) - 1)))).bind fun t237 => ((interlocutorlaw8_Ref.f a3).bind fun bt250 => ((act_Do.f k 9 (([0, 1] : List Int)) (([(⟨1, (([t236, 10] : List Int))⟩ : S27), (⟨1, (([t237, wrap64 (1 + t231)] : List Int))⟩ : S27)] : List (S27))) bt250.1 bt250.2.1 bt250.2.2.1 bt250.2.2.2.1 bt250.2.2.2.2.1 bt250.2.2.2.2.2).bind fun bt256 => (interlocutorlaw8_ActPoints.l0 k a3 bt256.2.2 (wrap64 ((wrap64 (t236 * (rd y232 (wrap64 ((wrap64 (1 + t231)) - 1))))) + t237)) (wrap64 (1 + t231)) bt256.1 bt256.2.1))))) else (none)) else (none)))) else (some false))) = some r := h
 clear h
 replace H := Option.bind_eq_some_iff.mp H
 obtain ⟨t230, A50, H⟩ := H
 replace H : (if t230 = true then ((interlocutorlaw8_within.f a2 6).bind fun t231 => ((some (([10, 100, 1000, 10000, 100000, 1000000] : List Int) : List Int)).bind fun y232 => (if 0 ≤ (wrap64 ((wrap64 (1 + t231)) - 1)) then (if (wrap64 ((wrap64 (1 + t231)) - 1)) < (y232.length : Int) then ((interlocutorlaw8_within.f a0 1073741824).bind fun t236 => ((interlocutorlaw8_within.f a1 (rd y232 (wrap64 ((wrap64 (1 + t231)) - 1)))).bind fun t237 => ((interlocutorlaw8_Ref.f a3).bind fun bt250 => ((act_Do.f k 9 (([0, 1] : List Int)) (([(⟨1, (([t236, 10] : List Int))⟩ : S27), (⟨1, (([t237, wrap64 (1 + t231)] : List Int))⟩ : S27)] : List (S27))) bt250.1 bt250.2.1 bt250.2.2.1 bt250.2.2.2.1 bt250.2.2.2.2.1 bt250.2.2.2.2.2).bind fun bt256 => (interlocutorlaw8_ActPoints.l0 k a3 bt256.2.2 (wrap64 ((wrap64 (t236 * (rd y232 (wrap64 ((wrap64 (1 + t231)) - 1))))) + t237)) (wrap64 (1 + t231)) bt256.1 bt256.2.1))))) else (none)) else (none)))) else (some false)) = some r := H
 have A5 := Aside0.mk A50
 clear A50
 by_cases c6 : t230 = true
 ·
  subst c6
  have H1 : ((interlocutorlaw8_within.f a2 6).bind fun t231 => ((some (([10, 100, 1000, 10000, 100000, 1000000] : List Int) : List Int)).bind fun y232 => (if 0 ≤ (wrap64 ((wrap64 (1 + t231)) - 1)) then (if (wrap64 ((wrap64 (1 + t231)) - 1)) < (y232.length : Int) then ((interlocutorlaw8_within.f a0 1073741824).bind fun t236 => ((interlocutorlaw8_within.f a1 (rd y232 (wrap64 ((wrap64 (1 + t231)) - 1)))).bind fun t237 => ((interlocutorlaw8_Ref.f a3).bind fun bt250 => ((act_Do.f k 9 (([0, 1] : List Int)) (([(⟨1, (([t236, 10] : List Int))⟩ : S27), (⟨1, (([t237, wrap64 (1 + t231)] : List Int))⟩ : S27)] : List (S27))) bt250.1 bt250.2.1 bt250.2.2.1 bt250.2.2.2.1 bt250.2.2.2.2.1 bt250.2.2.2.2.2).bind fun bt256 => (interlocutorlaw8_ActPoints.l0 k a3 bt256.2.2 (wrap64 ((wrap64 (t236 * (rd y232 (wrap64 ((wrap64 (1 + t231)) - 1))))) + t237)) (wrap64 (1 + t231)) bt256.1 bt256.2.1))))) else (none)) else (none)))) = some r := by rw [if_pos rfl] at H; exact H
  clear H
  have H := H1
  clear H1
  replace H := Option.bind_eq_some_iff.mp H
  obtain ⟨t231, A70, H⟩ := H
  replace H : ((some (([10, 100, 1000, 10000, 100000, 1000000] : List Int) : List Int)).bind fun y232 => (if 0 ≤ (wrap64 ((wrap64 (1 + t231)) - 1)) then (if (wrap64 ((wrap64 (1 + t231)) - 1)) < (y232.length : Int) then ((interlocutorlaw8_within.f a0 1073741824).bind fun t236 => ((interlocutorlaw8_within.f a1 (rd y232 (wrap64 ((wrap64 (1 + t231)) - 1)))).bind fun t237 => ((interlocutorlaw8_Ref.f a3).bind fun bt250 => ((act_Do.f k 9 (([0, 1] : List Int)) (([(⟨1, (([t236, 10] : List Int))⟩ : S27), (⟨1, (([t237, wrap64 (1 + t231)] : List Int))⟩ : S27)] : List (S27))) bt250.1 bt250.2.1 bt250.2.2.1 bt250.2.2.2.1 bt250.2.2.2.2.1 bt250.2.2.2.2.2).bind fun bt256 => (interlocutorlaw8_ActPoints.l0 k a3 bt256.2.2 (wrap64 ((wrap64 (t236 * (rd y232 (wrap64 ((wrap64 (1 + t231)) - 1))))) + t237)) (wrap64 (1 + t231)) bt256.1 bt256.2.1))))) else (none)) else (none))) = some r := H
  have A7 := Aside0.mk A70
  clear A70
  obtain ⟨y232, hy232⟩ : ∃ y_ : List Int, y_ = (([10, 100, 1000, 10000, 100000, 1000000] : List Int)) := ⟨_, rfl⟩
  replace H : (if 0 ≤ (wrap64 ((wrap64 (1 + t231)) - 1)) then (if (wrap64 ((wrap64 (1 + t231)) - 1)) < (y232.length : Int) then ((interlocutorlaw8_within.f a0 1073741824).bind fun t236 => ((interlocutorlaw8_within.f a1 (rd y232 (wrap64 ((wrap64 (1 + t231)) - 1)))).bind fun t237 => ((interlocutorlaw8_Ref.f a3).bind fun bt250 => ((act_Do.f k 9 (([0, 1] : List Int)) (([(⟨1, (([t236, 10] : List Int))⟩ : S27), (⟨1, (([t237, wrap64 (1 + t231)] : List Int))⟩ : S27)] : List (S27))) bt250.1 bt250.2.1 bt250.2.2.1 bt250.2.2.2.1 bt250.2.2.2.2.1 bt250.2.2.2.2.2).bind fun bt256 => (interlocutorlaw8_ActPoints.l0 k a3 bt256.2.2 (wrap64 ((wrap64 (t236 * (rd y232 (wrap64 ((wrap64 (1 + t231)) - 1))))) + t237)) (wrap64 (1 + t231)) bt256.1 bt256.2.1))))) else (none)) else (none)) = some r := by first | (rw [hy232]; with_reducible exact H) | (have H2_ := (Option.bind_some _ _).symm.trans H; rw [hy232]; with_reducible exact H2_) | (have H2_ := (Option.bind_some _ _).symm.trans H; with_reducible exact H2_) | with_reducible exact H | (rw [hy232]; exact H) | exact H
  have Ny232 := Aside0.mk hy232
  clear hy232
  obtain ⟨ji8, hji8⟩ : ∃ j_ : Int, (wrap64 ((wrap64 (1 + t231)) - 1)) = j_ := ⟨_, rfl⟩
  replace H : (if 0 ≤ (ji8) then (if (ji8) < (y232.length : Int) then ((interlocutorlaw8_within.f a0 1073741824).bind fun t236 => ((interlocutorlaw8_within.f a1 (rd y232 (ji8))).bind fun t237 => ((interlocutorlaw8_Ref.f a3).bind fun bt250 => ((act_Do.f k 9 (([0, 1] : List Int)) (([(⟨1, (([t236, 10] : List Int))⟩ : S27), (⟨1, (([t237, wrap64 (1 + t231)] : List Int))⟩ : S27)] : List (S27))) bt250.1 bt250.2.1 bt250.2.2.1 bt250.2.2.2.1 bt250.2.2.2.2.1 bt250.2.2.2.2.2).bind fun bt256 => (interlocutorlaw8_ActPoints.l0 k a3 bt256.2.2 (wrap64 ((wrap64 (t236 * (rd y232 (ji8)))) + t237)) (wrap64 (1 + t231)) bt256.1 bt256.2.1))))) else (none)) else (none)) = some r := by first | (rw [hji8] at H; exact H) | (simp only [hji8] at H ⊢; exact H)
  (try rw [hji8] at A5)
  (try rw [hji8] at A7)
  have hji8w : (IntKind.i64.wrap ((wrap64 (1 + t231)) - 1)) = ji8 := (i64_w _).trans hji8
  by_cases c9 : 0 ≤ (ji8)
  ·
   rw [if_pos c9] at H
   have c9b0 : decide (0 ≤ (ji8)) = true := decide_eq_true c9
   clear c9
   by_cases c10 : (ji8) < (y232.length : Int)
   ·
    rw [if_pos c10] at H
    have c10b0 : decide ((ji8) < (y232.length : Int)) = true := decide_eq_true c10
    clear c10
    replace H := Option.bind_eq_some_iff.mp H
    obtain ⟨t236, A110, H⟩ := H
    replace H : ((interlocutorlaw8_within.f a1 (rd y232 (ji8))).bind fun t237 => ((interlocutorlaw8_Ref.f a3).bind fun bt250 => ((act_Do.f k 9 (([0, 1] : List Int)) (([(⟨1, (([t236, 10] : List Int))⟩ : S27), (⟨1, (([t237, wrap64 (1 + t231)] : List Int))⟩ : S27)] : List (S27))) bt250.1 bt250.2.1 bt250.2.2.1 bt250.2.2.2.1 bt250.2.2.2.2.1 bt250.2.2.2.2.2).bind fun bt256 => (interlocutorlaw8_ActPoints.l0 k a3 bt256.2.2 (wrap64 ((wrap64 (t236 * (rd y232 (ji8)))) + t237)) (wrap64 (1 + t231)) bt256.1 bt256.2.1)))) = some r := H
    have A11 := Aside0.mk A110
    clear A110
    replace H := Option.bind_eq_some_iff.mp H
    obtain ⟨t237, A120, H⟩ := H
    replace H : ((interlocutorlaw8_Ref.f a3).bind fun bt250 => ((act_Do.f k 9 (([0, 1] : List Int)) (([(⟨1, (([t236, 10] : List Int))⟩ : S27), (⟨1, (([t237, wrap64 (1 + t231)] : List Int))⟩ : S27)] : List (S27))) bt250.1 bt250.2.1 bt250.2.2.1 bt250.2.2.2.1 bt250.2.2.2.2.1 bt250.2.2.2.2.2).bind fun bt256 => (interlocutorlaw8_ActPoints.l0 k a3 bt256.2.2 (wrap64 ((wrap64 (t236 * (rd y232 (ji8)))) + t237)) (wrap64 (1 + t231)) bt256.1 bt256.2.1))) = some r := H
    have A12 := Aside0.mk A120
    clear A120
    obtain ⟨y238, hy238⟩ : ∃ y_ : List Int, y_ = (([t236, 10] : List Int)) := ⟨_, rfl⟩
    replace H : ((interlocutorlaw8_Ref.f a3).bind fun bt250 => ((act_Do.f k 9 (([0, 1] : List Int)) (([(⟨1, y238⟩ : S27), (⟨1, (([t237, wrap64 (1 + t231)] : List Int))⟩ : S27)] : List (S27))) bt250.1 bt250.2.1 bt250.2.2.1 bt250.2.2.2.1 bt250.2.2.2.2.1 bt250.2.2.2.2.2).bind fun bt256 => (interlocutorlaw8_ActPoints.l0 k a3 bt256.2.2 (wrap64 ((wrap64 (t236 * (rd y232 (ji8)))) + t237)) (wrap64 (1 + t231)) bt256.1 bt256.2.1))) = some r := by first | (rw [hy238]; with_reducible exact H) | (have H2_ := (Option.bind_some _ _).symm.trans H; rw [hy238]; with_reducible exact H2_) | (have H2_ := (Option.bind_some _ _).symm.trans H; with_reducible exact H2_) | with_reducible exact H | (rw [hy238]; exact H) | exact H
    have Ny238 := Aside0.mk hy238
    clear hy238
    obtain ⟨y241, hy241⟩ : ∃ y_ : List Int, y_ = (([t237, wrap64 (1 + t231)] : List Int)) := ⟨_, rfl⟩
    replace H : ((interlocutorlaw8_Ref.f a3).bind fun bt250 => ((act_Do.f k 9 (([0, 1] : List Int)) (([(⟨1, y238⟩ : S27), (⟨1, y241⟩ : S27)] : List (S27))) bt250.1 bt250.2.1 bt250.2.2.1 bt250.2.2.2.1 bt250.2.2.2.2.1 bt250.2.2.2.2.2).bind fun bt256 => (interlocutorlaw8_ActPoints.l0 k a3 bt256.2.2 (wrap64 ((wrap64 (t236 * (rd y232 (ji8)))) + t237)) (wrap64 (1 + t231)) bt256.1 bt256.2.1))) = some r := by first | (rw [hy241]; with_reducible exact H) | (have H2_ := (Option.bind_some _ _).symm.trans H; rw [hy241]; with_reducible exact H2_) | (have H2_ := (Option.bind_some _ _).symm.trans H; with_reducible exact H2_) | with_reducible exact H | (rw [hy241]; exact H) | exact H
    have Ny241 := Aside0.mk hy241
    clear hy241
    obtain ⟨y244, hy244⟩ : ∃ y_ : List (S27), y_ = (([(⟨1, y238⟩ : S27), (⟨1, y241⟩ : S27)] : List (S27))) := ⟨_, rfl⟩
    replace H : ((interlocutorlaw8_Ref.f a3).bind fun bt250 => ((act_Do.f k 9 (([0, 1] : List Int)) y244 bt250.1 bt250.2.1 bt250.2.2.1 bt250.2.2.2.1 bt250.2.2.2.2.1 bt250.2.2.2.2.2).bind fun bt256 => (interlocutorlaw8_ActPoints.l0 k a3 bt256.2.2 (wrap64 ((wrap64 (t236 * (rd y232 (ji8)))) + t237)) (wrap64 (1 + t231)) bt256.1 bt256.2.1))) = some r := by first | (rw [hy244]; with_reducible exact H) | (have H2_ := (Option.bind_some _ _).symm.trans H; rw [hy244]; with_reducible exact H2_) | (have H2_ := (Option.bind_some _ _).symm.trans H; with_reducible exact H2_) | with_reducible exact H | (rw [hy244]; exact H) | exact H
    have Ny244 := Aside0.mk hy244
    clear hy244
    obtain ⟨y247, hy247⟩ : ∃ y_ : List Int, y_ = (([0, 1] : List Int)) := ⟨_, rfl⟩
    replace H : ((interlocutorlaw8_Ref.f a3).bind fun bt250 => ((act_Do.f k 9 y247 y244 bt250.1 bt250.2.1 bt250.2.2.1 bt250.2.2.2.1 bt250.2.2.2.2.1 bt250.2.2.2.2.2).bind fun bt256 => (interlocutorlaw8_ActPoints.l0 k a3 bt256.2.2 (wrap64 ((wrap64 (t236 * (rd y232 (ji8)))) + t237)) (wrap64 (1 + t231)) bt256.1 bt256.2.1))) = some r := by first | (rw [hy247]; with_reducible exact H) | (have H2_ := (Option.bind_some _ _).symm.trans H; rw [hy247]; with_reducible exact H2_) | (have H2_ := (Option.bind_some _ _).symm.trans H; with_reducible exact H2_) | with_reducible exact H | (rw [hy247]; exact H) | exact H
    have Ny247 := Aside0.mk hy247
    clear hy247
    replace H := Option.bind_eq_some_iff.mp H
    obtain ⟨⟨t250, t251, t252, t253, t254, t255⟩, A130, H⟩ := H
    replace H : ((act_Do.f k 9 y247 y244 t250 t251 t252 t253 t254 t255).bind fun bt256 => (interlocutorlaw8_ActPoints.l0 k a3 bt256.2.2 (wrap64 ((wrap64 (t236 * (rd y232 (ji8)))) + t237)) (wrap64 (1 + t231)) bt256.1 bt256.2.1)) = some r := H
    have A13 := Aside0.mk A130
    clear A130
    replace H := Option.bind_eq_some_iff.mp H
    obtain ⟨⟨t256, t257, t260⟩, A140, H⟩ := H
    replace H : (interlocutorlaw8_ActPoints.l0 k a3 t260 (wrap64 ((wrap64 (t236 * (rd y232 (ji8)))) + t237)) (wrap64 (1 + t231)) t256 t257) = some r := H
    have A14 := Aside0.mk A140
    clear A140
    have HC15 := Aside0.mk H
    clear H
    go_enter Try.func16, Try.ntmps16
    go_upto_block 0 with (first | ((with_reducible refine gate_callee (f := 17) rfl ?_); refine goesL_ (some 20) rfl rfl Try.func17 (by kernel_rfl) rfl #[] rfl (by (try simp only [List.map_toArray, List.map_cons, List.map_nil]); first | done | rfl | (simp only [List.length_drop, List.length_take]; rfl)) ?_; (with_reducible refine (interlocutorlaw8_known.calls  true _ A5.out).mono ?_); rintro e w16 ⟨rfl, hb⟩; refine ⟨_, rfl, ?_⟩; have n0_ := Aside0.mk (below_step (by repeat (first | (with_reducible first | exact HB.out | apply below_alloc | apply pw_below_drewN | apply below_drew1) | exact HB.out)) hb); clear HB; have HB := n0_; clear n0_; (try clear hb); (try clear hb2); (try clear hk); (try clear hi)) | ((with_reducible refine gate_callee (f := 18) rfl ?_); refine goesL_ (some 23) rfl rfl Try.func18 (by kernel_rfl) rfl #[.int .i64 a2, .int .i64 6] rfl (by (try simp only [List.map_toArray, List.map_cons, List.map_nil]); first | done | rfl | (simp only [List.length_drop, List.length_take]; rfl)) ?_; (with_reducible refine (interlocutorlaw8_within.calls a2 6 t231 _ A7.out).mono ?_); rintro e w' ⟨rfl, ⟨nd, rfl⟩⟩; refine ⟨_, rfl, ?_⟩; (try (rw [drewN_self w16]; generalize hq_ : World.drewN w16 _ = w16; have n0_ : Aside0 (Below w.heap.size w w16) := ⟨by rw [← hq_]; exact (by repeat (first | (with_reducible first | exact HB.out | apply below_alloc | apply pw_below_drewN | apply below_drew1) | exact HB.out))⟩; clear HB hq_; have HB := n0_; clear n0_))) | ((with_reducible refine gate_dst (N := 25) rfl ?_); (try (refine gate_guard (by rfl) ?_; dsimp only)); refine Kd.R_lit (Kd.int .i64) _ 3 ?hg (N := 25) ?hd (xs := ([10, 100, 1000, 10000, 100000, 1000000] : List Int)) (inner := [.int .i64 10, .int .i64 100, .int .i64 1000, .int .i64 10000, .int .i64 100000, .int .i64 1000000]) (ok := fun _ => True) (okp := fun _ => True) ?hr ?hp (fun _ hk => hk) trivial (Below.refl _ _) (Nat.le_refl _) (by simp) ?_; (case hd => rfl); (case hg => rfl); (case hr => first | (go_simp; done) | (go_simp; rfl)); (case hp => exact (Reps.one (show Kd.M (Kd.int .i64) _ _ _ 10 [.int .i64 10] from rfl) (Reps.one (show Kd.M (Kd.int .i64) _ _ _ 100 [.int .i64 100] from rfl) (Reps.one (show Kd.M (Kd.int .i64) _ _ _ 1000 [.int .i64 1000] from rfl) (Reps.one (show Kd.M (Kd.int .i64) _ _ _ 10000 [.int .i64 10000] from rfl) (Reps.one (show Kd.M (Kd.int .i64) _ _ _ 100000 [.int .i64 100000] from rfl) (Reps.one (show Kd.M (Kd.int .i64) _ _ _ 1000000 [.int .i64 1000000] from rfl) (Reps.none _ _)))))))); intro v233 w17 ho18 hb hg_ hnew_; clear hg_ hnew_; (first | rw [← Ny232.out] at ho18 | (simp only [Int.reduceToNat] at ho18; rw [← Ny232.out] at ho18)); have n0_ := Aside0.mk (Kd.R_lower ho18 (below_size (by repeat (first | (with_reducible first | exact HB.out | apply below_alloc | apply pw_below_drewN | apply below_drew1) | exact HB.out)))); have n1_ := Aside0.mk (below_step (by repeat (first | (with_reducible first | exact HB.out | apply below_alloc | apply pw_below_drewN | apply below_drew1) | exact HB.out)) hb); clear HB; have HO234 := n0_; have HB := n1_; clear n0_ n1_; clear hb ho18; obtain ⟨Ao19, co19, eo19⟩ := Kd.R_slice HO234.out; subst eo19; have p235 : 0 ≤ ((ji8) : Int) := of_decide_eq_true (by first | (with_reducible assumption) | assumption); have q235 : (ji8) < (y232.length : Int) := of_decide_eq_true (by first | (with_reducible assumption) | assumption); obtain ⟨ad235, e235, hx235_0⟩ := Kd.at_int (Kd.R_reads' HO234.out).2.2 (ji8) p235 q235; cases e235; replace p235 := eq_true p235; replace q235 := eq_true q235) | ((with_reducible refine gate_callee (f := 18) rfl ?_); refine goesL_ (some 31) rfl rfl Try.func18 (by kernel_rfl) rfl #[.int .i64 a0, .int .i64 1073741824] rfl (by (try simp only [List.map_toArray, List.map_cons, List.map_nil]); first | done | rfl | (simp only [List.length_drop, List.length_take]; rfl)) ?_; (with_reducible refine (interlocutorlaw8_within.calls a0 1073741824 t236 _ A11.out).mono ?_); rintro e w' ⟨rfl, ⟨nd, rfl⟩⟩; refine ⟨_, rfl, ?_⟩; (try (rw [drewN_self w17]; generalize hq_ : World.drewN w17 _ = w17; have n0_ : Aside0 (Kd.R (Kd.int .i64) 3 w17 w.heap.size (fun _ => True) (.slice (some ad235) y232.length co19) y232) := ⟨by rw [← hq_]; exact (by (with_reducible repeat (first | apply Kd.R_alloc | apply Kd.R_drewN | apply Kd.R_drew)); exact HO234.out)⟩; have n1_ : Aside0 (Below w.heap.size w w17) := ⟨by rw [← hq_]; exact (by repeat (first | (with_reducible first | exact HB.out | apply below_alloc | apply pw_below_drewN | apply below_drew1) | exact HB.out))⟩; clear HO234 HB hq_; have HO234 := n0_; have HB := n1_; clear n0_ n1_))) | ((with_reducible refine gate_callee (f := 18) rfl ?_); refine goesL_ (some 34) rfl rfl Try.func18 (by kernel_rfl) rfl #[.int .i64 a1, .int .i64 (rd y232 (ji8))] rfl (by (try simp only [List.map_toArray, List.map_cons, List.map_nil]); first | done | (simp only [hji8]; rfl) | rfl | (simp only [List.length_drop, List.length_take]; rfl)) ?_; (with_reducible refine (interlocutorlaw8_within.calls a1 (rd y232 (ji8)) t237 _ A12.out).mono ?_); rintro e w' ⟨rfl, ⟨nd, rfl⟩⟩; refine ⟨_, rfl, ?_⟩; (try (rw [drewN_self w17]; generalize hq_ : World.drewN w17 _ = w17; have n0_ : Aside0 (Kd.R (Kd.int .i64) 3 w17 w.heap.size (fun _ => True) (.slice (some ad235) y232.length co19) y232) := ⟨by rw [← hq_]; exact (by (with_reducible repeat (first | apply Kd.R_alloc | apply Kd.R_drewN | apply Kd.R_drew)); exact HO234.out)⟩; have n1_ : Aside0 (Below w.heap.size w w17) := ⟨by rw [← hq_]; exact (by repeat (first | (with_reducible first | exact HB.out | apply below_alloc | apply pw_below_drewN | apply below_drew1) | exact HB.out))⟩; clear HO234 HB hq_; have HO234 := n0_; have HB := n1_; clear n0_ n1_))) | ((with_reducible refine gate_dst (N := 36) rfl ?_); (try (refine gate_guard (by rfl) ?_; dsimp only)); refine Kd.R_lit (Kd.int .i64) _ 3 ?hg (N := 36) ?hd (xs := ([t236, 10] : List Int)) (inner := [.int .i64 t236, .int .i64 10]) (ok := fun _ => True) (okp := fun _ => True) ?hr ?hp (fun _ hk => hk) trivial (Below.refl _ _) (Nat.le_refl _) (by simp) ?_; (case hd => rfl); (case hg => rfl); (case hr => first | (go_simp; done) | (go_simp; rfl)); (case hp => exact (Reps.one (show Kd.M (Kd.int .i64) _ _ _ t236 [.int .i64 t236] from rfl) (Reps.one (show Kd.M (Kd.int .i64) _ _ _ 10 [.int .i64 10] from rfl) (Reps.none _ _)))); intro v239 w20 ho21 hb hg_ hnew_; clear hg_ hnew_; (first | rw [← Ny238.out] at ho21 | (simp only [Int.reduceToNat] at ho21; rw [← Ny238.out] at ho21)); have n0_ := Aside0.mk (Kd.R_elder' (by (with_reducible repeat (first | apply Kd.R_alloc | apply Kd.R_drewN | apply Kd.R_drew)); exact HO234.out) (Kd.R_base ho21) hb); have n1_ := Aside0.mk (Kd.R_lower (Kd.R_new' ho21 (Kd.R_lt (by (with_reducible repeat (first | apply Kd.R_alloc | apply Kd.R_drewN | apply Kd.R_drew)); exact HO234.out))) (below_size (by repeat (first | (with_reducible first | exact HB.out | apply below_alloc | apply pw_below_drewN | apply below_drew1) | exact HB.out)))); have n2_ := Aside0.mk (below_step (by repeat (first | (with_reducible first | exact HB.out | apply below_alloc | apply pw_below_drewN | apply below_drew1) | exact HB.out)) hb); clear HO234; clear HB; have HO234 := n0_; have HO240 := n1_; have HB := n2_; clear n0_ n1_ n2_; clear hb ho21; obtain ⟨Ao22, co22, eo22⟩ := Kd.R_slice HO240.out; subst eo22) | ((with_reducible refine gate_dst (N := 40) rfl ?_); (try (refine gate_guard (by rfl) ?_; dsimp only)); refine Kd.R_lit (Kd.int .i64) _ 3 ?hg (N := 40) ?hd (xs := ([t237, wrap64 (1 + t231)] : List Int)) (inner := [.int .i64 t237, .int .i64 (wrap64 (1 + t231))]) (ok := fun _ => True) (okp := fun _ => True) ?hr ?hp (fun _ hk => hk) trivial (Below.refl _ _) (Nat.le_refl _) (by simp) ?_; (case hd => rfl); (case hg => rfl); (case hr => first | (go_simp; done) | (go_simp; rfl)); (case hp => exact (Reps.one (show Kd.M (Kd.int .i64) _ _ _ t237 [.int .i64 t237] from rfl) (Reps.one (show Kd.M (Kd.int .i64) _ _ _ (wrap64 (1 + t231)) [.int .i64 (wrap64 (1 + t231))] from rfl) (Reps.none _ _)))); intro v242 w23 ho24 hb hg_ hnew_; clear hg_ hnew_; (first | rw [← Ny241.out] at ho24 | (simp only [Int.reduceToNat] at ho24; rw [← Ny241.out] at ho24)); have n0_ := Aside0.mk (Kd.R_elder' (by (with_reducible repeat (first | apply Kd.R_alloc | apply Kd.R_drewN | apply Kd.R_drew)); exact HO234.out) (Kd.R_base ho24) hb); have n1_ := Aside0.mk (Kd.R_elder' (by (with_reducible repeat (first | apply Kd.R_alloc | apply Kd.R_drewN | apply Kd.R_drew)); exact HO240.out) (Kd.R_base ho24) hb); have n2_ := Aside0.mk (Kd.R_lower (Kd.R_new' (Kd.R_new' ho24 (Kd.R_lt (by (with_reducible repeat (first | apply Kd.R_alloc | apply Kd.R_drewN | apply Kd.R_drew)); exact HO234.out))) (Kd.R_lt (by (with_reducible repeat (first | apply Kd.R_alloc | apply Kd.R_drewN | apply Kd.R_drew)); exact HO240.out))) (below_size (by repeat (first | (with_reducible first | exact HB.out | apply below_alloc | apply pw_below_drewN | apply below_drew1) | exact HB.out)))); have n3_ := Aside0.mk (below_step (by repeat (first | (with_reducible first | exact HB.out | apply below_alloc | apply pw_below_drewN | apply below_drew1) | exact HB.out)) hb); clear HO234; clear HO240; clear HB; have HO234 := n0_; have HO240 := n1_; have HO243 := n2_; have HB := n3_; clear n0_ n1_ n2_ n3_; clear hb ho24; obtain ⟨Ao25, co25, eo25⟩ := Kd.R_slice HO243.out; subst eo25) | ((with_reducible refine gate_dst (N := 42) rfl ?_); (try (refine gate_guard (by rfl) ?_; dsimp only)); refine Kd.N_lit k27 _ 27 ?hg (N' := 42) ?hd (xs := ([(⟨1, y238⟩ : S27), (⟨1, y241⟩ : S27)] : List (S27))) (inner := [.int .i64 1, .slice Ao22 y238.length co22, .int .i64 1, .slice Ao25 y241.length co25]) (ok := (fun k_ => some k_ ≠ (.slice (some ad235) y232.length co19 : Value).ownBlock)) (okp := (fun k_ => some k_ ≠ (.slice (some ad235) y232.length co19 : Value).ownBlock)) ?hr ?hp (fun _ hk => hk) ((show ∀ k_, w23.heap.size ≤ k_ → (fun k_ => some k_ ≠ (.slice (some ad235) y232.length co19 : Value).ownBlock) k_ from fun k_ hk => Kd.fresh' (Kd.R_lt (by (with_reducible repeat (first | apply Kd.R_alloc | apply Kd.R_drewN | apply Kd.R_drew)); exact HO234.out)) k_ hk) _ (Nat.le_refl _)) (Below.refl _ _) (Nat.le_refl _) (by simp) ?_; (case hd => rfl); (case hg => rfl); (case hr => first | (go_simp; done) | (go_simp; rfl)); (case hp => exact (Reps.c2 (show Kd.FK k27 _ _ (⟨1, y238⟩ : S27) [.int .i64 1, .slice Ao22 y238.length co22] from (k27_mkF _ _ (⟨1, y238⟩ : S27) (Kd.R_reads' (Kd.R_mono (ok' := (fun k_ => some k_ ≠ (.slice (some ad235) y232.length co19 : Value).ownBlock)) (HO240.out) (fun k_ hk => hk.1.2))).2.1 (Kd.R_F (Kd.R_mono (ok' := (fun k_ => some k_ ≠ (.slice (some ad235) y232.length co19 : Value).ownBlock)) (HO240.out) (fun k_ hk => hk.1.2))))) (Reps.c2 (show Kd.FK k27 _ _ (⟨1, y241⟩ : S27) [.int .i64 1, .slice Ao25 y241.length co25] from (k27_mkF _ _ (⟨1, y241⟩ : S27) (Kd.R_reads' (Kd.R_mono (ok' := (fun k_ => some k_ ≠ (.slice (some ad235) y232.length co19 : Value).ownBlock)) (HO243.out) (fun k_ hk => hk.1.2))).2.1 (Kd.R_F (Kd.R_mono (ok' := (fun k_ => some k_ ≠ (.slice (some ad235) y232.length co19 : Value).ownBlock)) (HO243.out) (fun k_ hk => hk.1.2))))) (Reps.none _ _)))); intro v245 w26 ho27 hb hg_ hnew_; clear hg_ hnew_; (first | rw [← Ny244.out] at ho27 | (simp only [Int.reduceToNat] at ho27; rw [← Ny244.out] at ho27)); have n0_ := Aside0.mk (Kd.R_below (by (with_reducible repeat (first | apply Kd.R_alloc | apply Kd.R_drewN | apply Kd.R_drew)); exact HO234.out) hb); have n1_ := Aside0.mk (Kd.N_lower ho27 (below_size (by repeat (first | (with_reducible first | exact HB.out | apply below_alloc | apply pw_below_drewN | apply below_drew1) | exact HB.out)))); have n2_ := Aside0.mk (below_step (by repeat (first | (with_reducible first | exact HB.out | apply below_alloc | apply pw_below_drewN | apply below_drew1) | exact HB.out)) hb); clear HO234; clear HB; clear HO240; clear HO243; have HO234 := n0_; have HO246 := n1_; have HB := n2_; clear n0_ n1_ n2_; clear hb ho27) | ((with_reducible refine gate_dst (N := 44) rfl ?_); (try (refine gate_guard (by rfl) ?_; dsimp only)); refine Kd.R_lit (Kd.int .i64) _ 3 ?hg (N := 44) ?hd (xs := ([0, 1] : List Int)) (inner := [.int .i64 0, .int .i64 1]) (ok := fun _ => True) (okp := fun _ => True) ?hr ?hp (fun _ hk => hk) trivial (Below.refl _ _) (Nat.le_refl _) (by simp) ?_; (case hd => rfl); (case hg => rfl); (case hr => first | (go_simp; done) | (go_simp; rfl)); (case hp => exact (Reps.one (show Kd.M (Kd.int .i64) _ _ _ 0 [.int .i64 0] from rfl) (Reps.one (show Kd.M (Kd.int .i64) _ _ _ 1 [.int .i64 1] from rfl) (Reps.none _ _)))); intro v248 w28 ho29 hb hg_ hnew_; clear hg_ hnew_; (first | rw [← Ny247.out] at ho29 | (simp only [Int.reduceToNat] at ho29; rw [← Ny247.out] at ho29)); have n0_ := Aside0.mk (Kd.R_elder' (by (with_reducible repeat (first | apply Kd.R_alloc | apply Kd.R_drewN | apply Kd.R_drew)); exact HO234.out) (Kd.R_base ho29) hb); have n1_ := Aside0.mk (Kd.N_elder' (by (with_reducible repeat (first | apply Kd.N_alloc | apply Kd.N_drewN | apply Kd.N_drew)); exact HO246.out) (Kd.R_base ho29) hb); have n2_ := Aside0.mk (Kd.R_lower (Kd.R_new' ho29 (Kd.R_lt (by (with_reducible repeat (first | apply Kd.R_alloc | apply Kd.R_drewN | apply Kd.R_drew)); exact HO234.out))) (below_size (by repeat (first | (with_reducible first | exact HB.out | apply below_alloc | apply pw_below_drewN | apply below_drew1) | exact HB.out)))); have n3_ := Aside0.mk (below_step (by repeat (first | (with_reducible first | exact HB.out | apply below_alloc | apply pw_below_drewN | apply below_drew1) | exact HB.out)) hb); clear HO234; clear HO246; clear HB; have HO234 := n0_; have HO246 := n1_; have HO249 := n2_; have HB := n3_; clear n0_ n1_ n2_ n3_; clear hb ho29; obtain ⟨Ao30, co30, eo30⟩ := Kd.R_slice HO249.out; subst eo30) | ((with_reducible refine gate_callee (f := 21) rfl ?_); refine goesL_ (some 48) rfl rfl Try.func21 (by kernel_rfl) rfl #[.int .i64 a3] rfl (by (try simp only [List.map_toArray, List.map_cons, List.map_nil]); first | done | rfl | (simp only [List.length_drop, List.length_take]; rfl)) ?_; (with_reducible refine (interlocutorlaw8_Ref.calls a3 t250 t251 t252 t253 t254 t255 _ A13.out).mono ?_); rintro e w31 ⟨rfl, hb⟩; refine ⟨_, rfl, ?_⟩; have n0_ := Aside0.mk (Kd.R_below (by (with_reducible repeat (first | apply Kd.R_alloc | apply Kd.R_drewN | apply Kd.R_drew)); exact HO234.out) hb); have n1_ := Aside0.mk (Kd.N_below (by (with_reducible repeat (first | apply Kd.N_alloc | apply Kd.N_drewN | apply Kd.N_drew)); exact HO246.out) hb); have n2_ := Aside0.mk (Kd.R_below (by (with_reducible repeat (first | apply Kd.R_alloc | apply Kd.R_drewN | apply Kd.R_drew)); exact HO249.out) hb); have n3_ := Aside0.mk (below_step (by repeat (first | (with_reducible first | exact HB.out | apply below_alloc | apply pw_below_drewN | apply below_drew1) | exact HB.out)) hb); clear HO234; clear HO246; clear HO249; clear HB; have HO234 := n0_; have HO246 := n1_; have HO249 := n2_; have HB := n3_; clear n0_ n1_ n2_ n3_; (try clear hb); (try clear hb2); (try clear hk); (try clear hi); obtain ⟨Ao32, co32, eo32⟩ := Kd.N_slice HO246.out; subst eo32) | ((with_reducible refine gate_callee (f := 22) rfl ?_); refine goesL_ (some 49) rfl rfl Try.func22 (by kernel_rfl) rfl #[.agg #[.int .i64 9, .slice Ao30 y247.length co30], .slice Ao32 y244.length co32, .agg #[.int .i64 t250, .int .i64 t251, .int .i64 t252, .int .i64 t253, .int .i64 t254, .int .i64 t255]] rfl (by (try simp only [List.map_toArray, List.map_cons, List.map_nil]); first | done | rfl | (simp only [List.length_drop, List.length_take]; rfl)) ?_; (with_reducible refine (act_Do.calls k 9 _ _ y247 _ _ y244 t250 t251 t252 t253 t254 t255 t256 t257 t260 _ ?side1 ?side2 ?side3 ?side4 A14.out).mono ?_); (case side1 => repeat (first | exact (Kd.R_reads' HO249.out).2.2 | (with_reducible refine Kd.C_alloc ?_ _) | (with_reducible refine Kd.C_drewN ?_ _) | (with_reducible refine Kd.C_drew ?_))); (case side2 => exact (Kd.R_reads' HO249.out).2.1); (case side3 => repeat (first | exact (Kd.N_reads' HO246.out).2.2 | (with_reducible refine Kd.C_alloc ?_ _) | (with_reducible refine Kd.C_drewN ?_ _) | (with_reducible refine Kd.C_drew ?_))); (case side4 => exact (Kd.N_reads' HO246.out).2.1); rintro e w33 ⟨v258, rfl, ho0, hb⟩; refine ⟨_, rfl, ?_⟩; have n0_ := Aside0.mk (Kd.R_elder' (by (with_reducible repeat (first | apply Kd.R_alloc | apply Kd.R_drewN | apply Kd.R_drew)); exact HO234.out) (Kd.R_base ho0) hb); have n1_ := Aside0.mk (Kd.N_elder' (by (with_reducible repeat (first | apply Kd.N_alloc | apply Kd.N_drewN | apply Kd.N_drew)); exact HO246.out) (Kd.R_base ho0) hb); have n2_ := Aside0.mk (Kd.R_elder' (by (with_reducible repeat (first | apply Kd.R_alloc | apply Kd.R_drewN | apply Kd.R_drew)); exact HO249.out) (Kd.R_base ho0) hb); have n3_ := Aside0.mk (Kd.R_lower (Kd.R_new' (Kd.R_new' ho0 (Kd.R_lt (by (with_reducible repeat (first | apply Kd.R_alloc | apply Kd.R_drewN | apply Kd.R_drew)); exact HO234.out))) (Kd.R_lt (by (with_reducible repeat (first | apply Kd.R_alloc | apply Kd.R_drewN | apply Kd.R_drew)); exact HO249.out))) (below_size (by repeat (first | (with_reducible first | exact HB.out | apply below_alloc | apply pw_below_drewN | apply below_drew1) | exact HB.out)))); have n4_ := Aside0.mk (below_step (by repeat (first | (with_reducible first | exact HB.out | apply below_alloc | apply pw_below_drewN | apply below_drew1) | exact HB.out)) hb); clear HO234; clear HO246; clear HO249; clear HB; have HO234 := n0_; have HO246 := n1_; have HO249 := n2_; have HO259 := n3_; have HB := n4_; clear n0_ n1_ n2_ n3_ n4_; (try clear hb); (try clear hb2); (try clear hk); (try clear hi); (try clear ho0)) | ((with_reducible refine gate_dst (N := 14) rfl ?_); (try (refine gate_guard (by rfl) ?_; dsimp only)); refine box_event ?hg (N := 14) ?hd (cs := #[.int .i64 0, .slice none 0 0]) (t := 27) ?hr ?_; (case hd => rfl); (case hg => rfl); (case hr => first | (go_simp; done) | (go_simp; rfl)); intro gb261 hg w34 hbox hb; have n0_ := Aside0.mk (Kd.R_below (by (with_reducible repeat (first | apply Kd.R_alloc | apply Kd.R_drewN | apply Kd.R_drew)); exact HO234.out) hb); have n1_ := Aside0.mk (Kd.N_below (Kd.N_elderB (by (with_reducible repeat (first | apply Kd.N_alloc | apply Kd.N_drewN | apply Kd.N_drew)); exact HO246.out) gb261 (Nat.le_of_eq hg.symm)) hb); have n2_ := Aside0.mk (Kd.R_below (by (with_reducible repeat (first | apply Kd.R_alloc | apply Kd.R_drewN | apply Kd.R_drew)); exact HO249.out) hb); have n3_ := Aside0.mk (Kd.R_below (by (with_reducible repeat (first | apply Kd.R_alloc | apply Kd.R_drewN | apply Kd.R_drew)); exact HO259.out) hb); have n4_ := Aside0.mk (below_step (by repeat (first | (with_reducible first | exact HB.out | apply below_alloc | apply pw_below_drewN | apply below_drew1) | exact HB.out)) hb); have n5_ := Aside0.mk (hbox); have n6_ := Aside0.mk ((by rw [hg]; exact (below_size (by repeat (first | (with_reducible first | exact HB.out | apply below_alloc | apply pw_below_drewN | apply below_drew1) | exact HB.out))) : w.heap.size ≤ gb261)); have n7_ := Aside0.mk ((by rw [hg]; exact (below_size (by repeat (first | (with_reducible first | exact HB.out | apply below_alloc | apply pw_below_drewN | apply below_drew1) | exact HB.out))) : w.heap.size ≤ gb261)); clear HO234; clear HO246; clear HO249; clear HO259; clear HB; have HO234 := n0_; have HO246 := n1_; have HO249 := n2_; have HO259 := n3_; have HB := n4_; have BK261 := n5_; have GW261 := n6_; have GE261 := n7_; clear n0_ n1_ n2_ n3_ n4_ n5_ n6_ n7_; clear hb hbox hg; have hcz35_0 : w34.cell? ⟨gb261, 0, none⟩ = some (.int .i64 0) := (blk_cell BK261.out 0).trans rfl; have hcz35_1 : w34.cell? ⟨gb261, 1, none⟩ = some (.slice none 0 0) := (blk_cell BK261.out 1).trans rfl; have hfz35_0 := blk_frozen BK261.out 0; have hfz35_1 := blk_frozen BK261.out 1; obtain ⟨Ao36, co36, eo36⟩ := Kd.R_slice HO259.out; subst eo36))
    (try simp only [Act.put, List.setIfInBounds_toArray, List.set_cons_zero, List.set_cons_succ])
    go_cut [16, 17] (fun v16 v17 wc => ∃ (kq : Nat) (x16_14 : Int) (x17_14 : Int), v16 = .int .i64 x16_14 ∧ v17 = .int .i64 x17_14 ∧ Aside0 (interlocutorlaw8_ActPoints.j1 kq a3 t260 x16_14 x17_14 t256 t257 = some r) ∧ Aside0 (kq ≤ k) ∧ Aside0 (Kd.R (Kd.int .i64) 3 wc w.heap.size (fun _ => True) (.slice Ao36 t257.length co36) t257) ∧ Aside0 (wc.heap[gb261]? = some (.cells #[.int .i64 t256, (.slice Ao36 t257.length co36)] 27 (0, 0))) ∧ Aside0 (Below w.heap.size w wc))
    case first =>
     have H := HC15.out
     clear HC15
     have H' := Aside0.mk H
     clear H
     go_wp2
     go_loopg [16, 17] k (fun kq v16 v17 w' => ∃ (x16_1 : Int) (x17_1 : Int), v16 = .int .i64 x16_1 ∧ v17 = .int .i64 x17_1 ∧ Aside0 (interlocutorlaw8_ActPoints.l0 kq a3 t260 x16_1 x17_1 t256 t257 = some r) ∧ Aside0 (kq ≤ k) ∧ Aside0 (Kd.R (Kd.int .i64) 3 w' w.heap.size (fun _ => True) (.slice Ao36 t257.length co36) t257) ∧ Aside0 (w'.heap[gb261]? = some (.cells #[.int .i64 t256, (.slice Ao36 t257.length co36)] 27 (0, 0))) ∧ Aside0 (Below w.heap.size w w'))
     case atStart => exact ⟨(wrap64 ((wrap64 (t236 * (rd y232 (ji8)))) + t237)), (wrap64 (1 + t231)), (by first | rfl | (simp; done) | (simp only [← hji8] <;> (first | rfl | simp)) | (simp [*]; done)), (by first | rfl | (simp; done) | (simp [*]; done)), H', ⟨Nat.le_refl _⟩, ⟨by (with_reducible repeat (first | apply Kd.R_alloc | apply Kd.R_drewN | apply Kd.R_drew)); exact Kd.R_mono (Kd.R_far (p := ⟨gb261, 1, none⟩) (Kd.R_far (p := ⟨gb261, 0, none⟩) (Kd.R_types HO259.out BK261.out (by decide)) (fun _ hk => hk.2) (.int .i64 t256)) (fun _ hk => hk.2) (.slice Ao36 t257.length co36)) (fun _ hk => trivial)⟩, ⟨by (with_reducible repeat (first | refine blk_drewN ?_ _ | refine blk_drew ?_ | refine blk_alloc ?_ _)); refine blk_put (cs := #[.int .i64 t256, .slice none 0 0]) ?_ 1 _ rfl; (with_reducible repeat (first | refine blk_drewN ?_ _ | refine blk_drew ?_ | refine blk_alloc ?_ _)); refine blk_put (cs := #[.int .i64 0, .slice none 0 0]) ?_ 0 _ rfl; (with_reducible repeat (first | refine blk_drewN ?_ _ | refine blk_drew ?_ | refine blk_alloc ?_ _)); exact BK261.out⟩, ⟨by repeat (first | (with_reducible first | exact HB.out | apply below_alloc | apply pw_below_drewN | apply below_drew1 | refine below_set ?_ GE261.out) | exact HB.out)⟩⟩
     case round =>
      clear H'
      try clear c1
      try clear c2
      try clear p2
      try clear q2
      try clear hx2
      try clear c6
      try clear p6
      try clear c9
      try clear c9b0
      try clear c10
      try clear c10b0
      try clear c16
      try clear c17
      try clear c18
      try clear c21
      try clear c22
      try clear p23
      try clear q23
      try clear hx23
      try clear hcz35_0
      try clear hcz35_1
      try clear hfz35_0
      try clear hfz35_1
      try clear hx235_0
      try clear p235
      try clear q235
      obtain ⟨x16_1, x17_1, rfl, rfl, HA, HK1, HO_262001, BK261, HB⟩ := hrel
      cases gk with
      | zero => exact absurd HA.out (by simp [interlocutorlaw8_ActPoints.l0])
      | succ k1 =>
       have H := HA.out
       clear HA
       simp only [interlocutorlaw8_ActPoints.l0] at H
       by_cases c37 : x17_1 > 0
       ·
        rw [if_pos c37] at H
        have c37b0 : decide (0 < x17_1) = true := decide_eq_true c37
        clear c37
        (first | rw [c37b0] | (simp only [i64_w, i32_w]; rw [c37b0]) | skip)
        by_cases c38 : (Int.tmod x16_1 10) = 0
        ·
         rw [if_pos c38] at H
         have c38b0 : ((Int.tmod x16_1 10) == 0) = true := beq_iff_eq.mpr c38
         have c38b1 : ((Int.tmod x16_1 10) != 0) = false := bne_eq_false_iff_eq.mpr c38
         clear c38
         have H' := Aside0.mk H
         clear H
         go_wp2
         go_roundg k1
         case measure => have := HK1.out; omega
         case rel => exact ⟨(wrap64 (Int.tdiv x16_1 10)), (wrap64 (x17_1 - 1)), (by first | rfl | (simp; done) | (simp [*]; done)), (by first | rfl | (simp; done) | (simp [*]; done)), H', ⟨by have := HK1.out; omega⟩, ⟨by (with_reducible repeat (first | apply Kd.R_alloc | apply Kd.R_drewN | apply Kd.R_drew)); exact HO_262001.out⟩, ⟨by (with_reducible repeat (first | refine blk_drewN ?_ _ | refine blk_drew ?_ | refine blk_alloc ?_ _)); exact BK261.out⟩, ⟨by repeat (first | (with_reducible first | exact HB.out | apply below_alloc | apply pw_below_drewN | apply below_drew1 | refine below_set ?_ GE261.out) | exact HB.out)⟩⟩
        ·
         rw [if_neg c38] at H
         have c38b0 : ((Int.tmod x16_1 10) == 0) = false := beq_eq_false_iff_ne.mpr c38
         have c38b1 : ((Int.tmod x16_1 10) != 0) = true := bne_iff_ne.mpr c38
         have H' := Aside0.mk H
         clear H
         go_wp2
         go_meet
         case rel => exact ⟨_, (x16_1), (x17_1), (by first | rfl | (simp; done) | (simp [*]; done)), (by first | rfl | (simp; done) | (simp [*]; done)), H', ⟨by have := HK1.out; first | omega | exact Nat.le_refl _⟩, ⟨by (with_reducible repeat (first | apply Kd.R_alloc | apply Kd.R_drewN | apply Kd.R_drew)); exact HO_262001.out⟩, ⟨by (with_reducible repeat (first | refine blk_drewN ?_ _ | refine blk_drew ?_ | refine blk_alloc ?_ _)); exact BK261.out⟩, ⟨by repeat (first | (with_reducible first | exact HB.out | apply below_alloc | apply pw_below_drewN | apply below_drew1 | refine below_set ?_ GE261.out) | exact HB.out)⟩⟩
       ·
        rw [if_neg c37] at H
        have c37b0 : decide (0 < x17_1) = false := decide_eq_false c37
        clear c37
        (first | rw [c37b0] | (simp only [i64_w, i32_w]; rw [c37b0]) | skip)
        have H' := Aside0.mk H
        clear H
        go_wp2
        go_meet
        case rel => exact ⟨_, (x16_1), (x17_1), (by first | rfl | (simp; done) | (simp [*]; done)), (by first | rfl | (simp; done) | (simp [*]; done)), H', ⟨by have := HK1.out; first | omega | exact Nat.le_refl _⟩, ⟨by (with_reducible repeat (first | apply Kd.R_alloc | apply Kd.R_drewN | apply Kd.R_drew)); exact HO_262001.out⟩, ⟨by (with_reducible repeat (first | refine blk_drewN ?_ _ | refine blk_drew ?_ | refine blk_alloc ?_ _)); exact BK261.out⟩, ⟨by repeat (first | (with_reducible first | exact HB.out | apply below_alloc | apply pw_below_drewN | apply below_drew1 | refine below_set ?_ GE261.out) | exact HB.out)⟩⟩
    case rest =>
     clear HC15
     try clear c1
     try clear c2
     try clear p2
     try clear q2
     try clear hx2
     try clear c3
     try clear c6
     try clear p6
     try clear c9
     try clear c9b0
     try clear c10
     try clear c10b0
     try clear c16
     try clear c17
     try clear c18
     try clear c21
     try clear c22
     try clear p23
     try clear q23
     try clear hx23
     try clear c37
     try clear c37b0
     try clear c38
     try clear c38b0
     try clear c38b1
     try clear hcz35_0
     try clear hcz35_1
     try clear hfz35_0
     try clear hfz35_1
     try clear hx235_0
     try clear p2
     try clear p23
     try clear p235
     try clear p6
     try clear q2
     try clear q23
     try clear q235
     obtain ⟨kq, x16_14, x17_14, rfl, rfl, HA, HJ14, HO_262001, BK261, HB⟩ := hcut
     cases kq with
     | zero => exact absurd HA.out (by simp [interlocutorlaw8_ActPoints.j1])
     | succ kj14 =>
      have H := HA.out
      clear HA
      simp only [interlocutorlaw8_ActPoints.j1] at H
      obtain ⟨y262, hy262⟩ : ∃ y_ : List Int, y_ = (([0] : List Int)) := ⟨_, rfl⟩
      replace H : ((interlocutorlaw8_Ref.f a3).bind fun bt268 => ((act_Do.f kj14 11 y262 (([(⟨t256, t257⟩ : S27)] : List (S27))) bt268.1 bt268.2.1 bt268.2.2.1 bt268.2.2.2.1 bt268.2.2.2.2.1 bt268.2.2.2.2.2).bind fun bt274 => (if t260 = true then (if bt274.2.2 = true then ((interlocutorref10_Cmp.f kj14 t256 t257 7 (([x16_14, x17_14] : List Int))).bind fun t283 => (if t283 = 0 then ((interlocutorref10_Cmp.f kj14 bt274.1 bt274.2.1 7 (([wrap64 (-x16_14), x17_14] : List Int))).bind fun t287 => (some (t287 == 0))) else (some false))) else (some false)) else (some false)))) = some r := by first | (rw [hy262]; with_reducible exact H) | (have H2_ := (Option.bind_some _ _).symm.trans H; rw [hy262]; with_reducible exact H2_) | (have H2_ := (Option.bind_some _ _).symm.trans H; with_reducible exact H2_) | with_reducible exact H | (rw [hy262]; exact H) | exact H
      have Ny262 := Aside0.mk hy262
      clear hy262
      obtain ⟨y265, hy265⟩ : ∃ y_ : List (S27), y_ = (([(⟨t256, t257⟩ : S27)] : List (S27))) := ⟨_, rfl⟩
      replace H : ((interlocutorlaw8_Ref.f a3).bind fun bt268 => ((act_Do.f kj14 11 y262 y265 bt268.1 bt268.2.1 bt268.2.2.1 bt268.2.2.2.1 bt268.2.2.2.2.1 bt268.2.2.2.2.2).bind fun bt274 => (if t260 = true then (if bt274.2.2 = true then ((interlocutorref10_Cmp.f kj14 t256 t257 7 (([x16_14, x17_14] : List Int))).bind fun t283 => (if t283 = 0 then ((interlocutorref10_Cmp.f kj14 bt274.1 bt274.2.1 7 (([wrap64 (-x16_14), x17_14] : List Int))).bind fun t287 => (some (t287 == 0))) else (some false))) else (some false)) else (some false)))) = some r := by first | (rw [hy265]; with_reducible exact H) | (have H2_ := (Option.bind_some _ _).symm.trans H; rw [hy265]; with_reducible exact H2_) | (have H2_ := (Option.bind_some _ _).symm.trans H; with_reducible exact H2_) | with_reducible exact H | (rw [hy265]; exact H) | exact H
      have Ny265 := Aside0.mk hy265
      clear hy265
      replace H := Option.bind_eq_some_iff.mp H
      obtain ⟨⟨t268, t269, t270, t271, t272, t273⟩, A390, H⟩ := H
      replace H : ((act_Do.f kj14 11 y262 y265 t268 t269 t270 t271 t272 t273).bind fun bt274 => (if t260 = true then (if bt274.2.2 = true then ((interlocutorref10_Cmp.f kj14 t256 t257 7 (([x16_14, x17_14] : List Int))).bind fun t283 => (if t283 = 0 then ((interlocutorref10_Cmp.f kj14 bt274.1 bt274.2.1 7 (([wrap64 (-x16_14), x17_14] : List Int))).bind fun t287 => (some (t287 == 0))) else (some false))) else (some false)) else (some false))) = some r := H
      have A39 := Aside0.mk A390
      clear A390
      replace H := Option.bind_eq_some_iff.mp H
      obtain ⟨⟨t274, t275, t278⟩, A400, H⟩ := H
      replace H : (if t260 = true then (if t278 = true then ((interlocutorref10_Cmp.f kj14 t256 t257 7 (([x16_14, x17_14] : List Int))).bind fun t283 => (if t283 = 0 then ((interlocutorref10_Cmp.f kj14 t274 t275 7 (([wrap64 (-x16_14), x17_14] : List Int))).bind fun t287 => (some (t287 == 0))) else (some false))) else (some false)) else (some false)) = some r := H
      have A40 := Aside0.mk A400
      clear A400
      by_cases c41 : t260 = true
      ·
       subst c41
       have H1 : (if t278 = true then ((interlocutorref10_Cmp.f kj14 t256 t257 7 (([x16_14, x17_14] : List Int))).bind fun t283 => (if t283 = 0 then ((interlocutorref10_Cmp.f kj14 t274 t275 7 (([wrap64 (-x16_14), x17_14] : List Int))).bind fun t287 => (some (t287 == 0))) else (some false))) else (some false)) = some r := by rw [if_pos rfl] at H; exact H
       clear H
       have H := H1
       clear H1
       by_cases c42 : t278 = true
       ·
        subst c42
        have H1 : ((interlocutorref10_Cmp.f kj14 t256 t257 7 (([x16_14, x17_14] : List Int))).bind fun t283 => (if t283 = 0 then ((interlocutorref10_Cmp.f kj14 t274 t275 7 (([wrap64 (-x16_14), x17_14] : List Int))).bind fun t287 => (some (t287 == 0))) else (some false))) = some r := by rw [if_pos rfl] at H; exact H
        clear H
        have H := H1
        clear H1
        obtain ⟨y280, hy280⟩ : ∃ y_ : List Int, y_ = (([x16_14, x17_14] : List Int)) := ⟨_, rfl⟩
        replace H : ((interlocutorref10_Cmp.f kj14 t256 t257 7 y280).bind fun t283 => (if t283 = 0 then ((interlocutorref10_Cmp.f kj14 t274 t275 7 (([wrap64 (-x16_14), x17_14] : List Int))).bind fun t287 => (some (t287 == 0))) else (some false))) = some r := by first | (rw [hy280]; with_reducible exact H) | (have H2_ := (Option.bind_some _ _).symm.trans H; rw [hy280]; with_reducible exact H2_) | (have H2_ := (Option.bind_some _ _).symm.trans H; with_reducible exact H2_) | with_reducible exact H | (rw [hy280]; exact H) | exact H
        have Ny280 := Aside0.mk hy280
        clear hy280
        replace H := Option.bind_eq_some_iff.mp H
        obtain ⟨t283, A430, H⟩ := H
        replace H : (if t283 = 0 then ((interlocutorref10_Cmp.f kj14 t274 t275 7 (([wrap64 (-x16_14), x17_14] : List Int))).bind fun t287 => (some (t287 == 0))) else (some false)) = some r := H
        have A43 := Aside0.mk A430
        clear A430
        by_cases c44 : t283 = 0
        ·
         rw [if_pos c44] at H
         have c44b0 : (t283 == 0) = true := beq_iff_eq.mpr c44
         have c44b1 : (t283 != 0) = false := bne_eq_false_iff_eq.mpr c44
         clear c44
         obtain ⟨y284, hy284⟩ : ∃ y_ : List Int, y_ = (([wrap64 (-x16_14), x17_14] : List Int)) := ⟨_, rfl⟩
         replace H : ((interlocutorref10_Cmp.f kj14 t274 t275 7 y284).bind fun t287 => (some (t287 == 0))) = some r := by first | (rw [hy284]; with_reducible exact H) | (have H2_ := (Option.bind_some _ _).symm.trans H; rw [hy284]; with_reducible exact H2_) | (have H2_ := (Option.bind_some _ _).symm.trans H; with_reducible exact H2_) | with_reducible exact H | (rw [hy284]; exact H) | exact H
         have Ny284 := Aside0.mk hy284
         clear hy284
         replace H := Option.bind_eq_some_iff.mp H
         obtain ⟨t287, A450, H⟩ := H
         replace H : (some (t287 == 0)) = some r := H
         have A45 := Aside0.mk A450
         clear A450
         obtain rfl := Option.some.inj H
         try go_wp2
         have n0_ := Aside0.mk (Kd.R_drew HO_262001.out)
         have n1_ := Aside0.mk (blk_drew BK261.out)
         have n2_ := Aside0.mk (below_drew1 HB.out)
         clear HO_262001
         clear BK261
         clear HB
         have HO_262001 := n0_
         have BK261 := n1_
         have HB := n2_
         clear n0_ n1_ n2_
         refine start_ (n := 13) (S := fun w' => w'.cell? ⟨gb261, 0, none⟩ = some (.int .i64 t256) ∧ w'.cell? ⟨gb261, 1, none⟩ = some (.slice Ao36 t257.length co36) ∧ Kd.R (Kd.int .i64) 3 w' w.heap.size (fun _ => True) (.slice Ao36 t257.length co36) t257) (ds := []) #[false, false, false, false, false, false, false, false, false, false, false, false, false] (by kernel_rfl) rfl rfl ⟨(blk_cell BK261.out 0).trans rfl, (blk_cell BK261.out 1).trans rfl, Kd.R_mono HO_262001.out (fun _ _ => trivial)⟩ (fun hHeld => ?_); refine with_tabW interlocutorlaw8_ActPoints.tab11 interlocutorlaw8_ActPoints.bits11 (fun HT_ HW_ => ?_)
         generalize wc.drew = w46 at HO_262001 BK261 HB hHeld ⊢
         refine pure_ (i := 4) (N := some 74) (v := ?_) (a' := ?_) #[false, false, false, false, true, false, false, false, false, false, false, false, false] rfl rfl (any_of HT_.out (by kernel_rfl)) (fun _ _ _ h => h) (Or.inl ⟨by rfl, ?_⟩) ?_ ?_
         rotate_left
         ·
          intro w'
          go_simp
          with_reducible rfl
         rotate_left
         ·
          simp only [Act.put, List.setIfInBounds_toArray, List.set_cons_zero, List.set_cons_succ, i64_w, i32_w]
          rfl
         refine take_ (i := 2) (N := some 72) (v := ?_) (a' := ?_) #[false, false, true, false, true, false, false, false, false, false, false, false, false] rfl rfl (take_ofW HT_.out HW_.out (by kernel_rfl)) (fun _ _ _ h => h) (Or.inl ⟨by rfl, ?_⟩) hHeld ?_ ?_
         rotate_left
         ·
          rintro w' ⟨s0, s1, _⟩
          go_simp
          with_reducible rfl
         rotate_left
         ·
          simp only [Act.put, List.setIfInBounds_toArray, List.set_cons_zero, List.set_cons_succ, i64_w, i32_w]
          rfl
         refine join_ (σ := Value × Value × Value × Nat) 2 #[true, true, true, true, true, true, true, true, true, true, true, false, false] (fun s_ => [(70, s_.1), (73, s_.2.1), (75, .agg #[.int .i64 t268, .int .i64 t269, .int .i64 t270, .int .i64 t271, .int .i64 t272, .int .i64 t273]), (76, .tuple #[.agg #[.int .i64 t274, s_.2.2.1], .bool true]), (18, .pointer (some ⟨s_.2.2.2, 0, none⟩)), (71, .agg #[.int .i64 11, s_.1]), (69, .tuple #[.agg #[.int .i64 t274, s_.2.2.1], .bool true]), (77, .agg #[.int .i64 t274, s_.2.2.1]), (78, .bool true)]) (fun s_ w' => (w'.cell? ⟨gb261, 0, none⟩ = some (.int .i64 t256) ∧ w'.cell? ⟨gb261, 1, none⟩ = some (.slice Ao36 t257.length co36) ∧ Kd.R (Kd.int .i64) 3 w' w.heap.size (fun _ => True) (.slice Ao36 t257.length co36) t257) ∧ (Kd.R (Kd.int .i64) 3 w' w.heap.size (fun k_ => some k_ ≠ (s_.2.2.1 : Value).ownBlock) s_.1 y262) ∧ (Kd.N k27 27 w' w.heap.size (fun k_ => some k_ ≠ (s_.1 : Value).ownBlock ∧ some k_ ≠ (s_.2.2.1 : Value).ownBlock ∧ k_ ≠ gb261 ∧ k_ ≠ s_.2.2.2) s_.2.1 y265) ∧ (Kd.R (Kd.int .i64) 3 w' w.heap.size (fun k_ => some k_ ≠ (s_.1 : Value).ownBlock) s_.2.2.1 t275) ∧ (w'.heap[gb261]? = some (.cells #[.int .i64 t256, .slice Ao36 t257.length co36] 27 (0, 0))) ∧ (w'.heap[s_.2.2.2]? = some (.cells #[.int .i64 0, .slice none 0 0] 27 (0, 0))) ∧ (w.heap.size ≤ s_.2.2.2) ∧ (w.heap.size ≤ s_.2.2.2) ∧ (gb261 ≠ s_.2.2.2) ∧ (s_.2.2.2 ≠ gb261) ∧ (Below w.heap.size w w')) ?_ ?_
         rotate_left
         ·
          intro hJ0_3_5_6_10
          refine join_ (σ := Value × Value × Value) 3 #[true, true, true, true, true, true, true, true, true, true, false, false, false] (fun s_ => [(70, s_.1), (73, s_.2.1), (75, .agg #[.int .i64 t268, .int .i64 t269, .int .i64 t270, .int .i64 t271, .int .i64 t272, .int .i64 t273]), (76, .tuple #[.agg #[.int .i64 t274, s_.2.2], .bool true]), (71, .agg #[.int .i64 11, s_.1]), (69, .tuple #[.agg #[.int .i64 t274, s_.2.2], .bool true]), (77, .agg #[.int .i64 t274, s_.2.2]), (78, .bool true)]) (fun s_ w' => (w'.cell? ⟨gb261, 0, none⟩ = some (.int .i64 t256) ∧ w'.cell? ⟨gb261, 1, none⟩ = some (.slice Ao36 t257.length co36) ∧ Kd.R (Kd.int .i64) 3 w' w.heap.size (fun _ => True) (.slice Ao36 t257.length co36) t257) ∧ (Kd.R (Kd.int .i64) 3 w' w.heap.size (fun k_ => some k_ ≠ (s_.2.2 : Value).ownBlock) s_.1 y262) ∧ (Kd.N k27 27 w' w.heap.size (fun k_ => some k_ ≠ (s_.1 : Value).ownBlock ∧ some k_ ≠ (s_.2.2 : Value).ownBlock ∧ k_ ≠ gb261) s_.2.1 y265) ∧ (Kd.R (Kd.int .i64) 3 w' w.heap.size (fun k_ => some k_ ≠ (s_.1 : Value).ownBlock) s_.2.2 t275) ∧ (w'.heap[gb261]? = some (.cells #[.int .i64 t256, .slice Ao36 t257.length co36] 27 (0, 0))) ∧ (Below w.heap.size w w')) ?_ ?_
          rotate_left
          ·
           intro hJ0_3_5_6
           refine join_ (σ := Value × Value × Nat) 6 #[true, true, true, true, true, true, false, false, false, false, true, false, false] (fun s_ => [(70, s_.1), (73, s_.2.1), (75, .agg #[.int .i64 t268, .int .i64 t269, .int .i64 t270, .int .i64 t271, .int .i64 t272, .int .i64 t273]), (18, .pointer (some ⟨s_.2.2, 0, none⟩)), (71, .agg #[.int .i64 11, s_.1])]) (fun s_ w' => (w'.cell? ⟨gb261, 0, none⟩ = some (.int .i64 t256) ∧ w'.cell? ⟨gb261, 1, none⟩ = some (.slice Ao36 t257.length co36) ∧ Kd.R (Kd.int .i64) 3 w' w.heap.size (fun _ => True) (.slice Ao36 t257.length co36) t257) ∧ (Kd.R (Kd.int .i64) 3 w' w.heap.size (fun _ => True) s_.1 y262) ∧ (Kd.N k27 27 w' w.heap.size (fun k_ => some k_ ≠ (s_.1 : Value).ownBlock ∧ k_ ≠ gb261 ∧ k_ ≠ s_.2.2) s_.2.1 y265) ∧ (w'.heap[gb261]? = some (.cells #[.int .i64 t256, .slice Ao36 t257.length co36] 27 (0, 0))) ∧ (w'.heap[s_.2.2]? = some (.cells #[.int .i64 0, .slice none 0 0] 27 (0, 0))) ∧ (w.heap.size ≤ s_.2.2) ∧ (w.heap.size ≤ s_.2.2) ∧ (gb261 ≠ s_.2.2) ∧ (s_.2.2 ≠ gb261) ∧ (Below w.heap.size w w')) ?_ ?_
           rotate_left
           ·
            intro hJ0_3_5_10
            refine join_ (σ := Value × Value) 7 #[true, true, true, true, true, true, false, false, false, false, false, false, false] (fun s_ => [(70, s_.1), (73, s_.2), (75, .agg #[.int .i64 t268, .int .i64 t269, .int .i64 t270, .int .i64 t271, .int .i64 t272, .int .i64 t273]), (71, .agg #[.int .i64 11, s_.1])]) (fun s_ w' => (w'.cell? ⟨gb261, 0, none⟩ = some (.int .i64 t256) ∧ w'.cell? ⟨gb261, 1, none⟩ = some (.slice Ao36 t257.length co36) ∧ Kd.R (Kd.int .i64) 3 w' w.heap.size (fun _ => True) (.slice Ao36 t257.length co36) t257) ∧ (Kd.R (Kd.int .i64) 3 w' w.heap.size (fun _ => True) s_.1 y262) ∧ (Kd.N k27 27 w' w.heap.size (fun k_ => some k_ ≠ (s_.1 : Value).ownBlock ∧ k_ ≠ gb261) s_.2 y265) ∧ (w'.heap[gb261]? = some (.cells #[.int .i64 t256, .slice Ao36 t257.length co36] 27 (0, 0))) ∧ (Below w.heap.size w w')) ?_ ?_
            rotate_left
            ·
             intro hJ0_3_5
             refine join_ (σ := Value × Value × Nat) 7 #[true, true, true, true, true, false, false, false, false, false, true, false, false] (fun s_ => [(70, s_.1), (73, s_.2.1), (18, .pointer (some ⟨s_.2.2, 0, none⟩)), (71, .agg #[.int .i64 11, s_.1])]) (fun s_ w' => (w'.cell? ⟨gb261, 0, none⟩ = some (.int .i64 t256) ∧ w'.cell? ⟨gb261, 1, none⟩ = some (.slice Ao36 t257.length co36) ∧ Kd.R (Kd.int .i64) 3 w' w.heap.size (fun _ => True) (.slice Ao36 t257.length co36) t257) ∧ (Kd.R (Kd.int .i64) 3 w' w.heap.size (fun _ => True) s_.1 y262) ∧ (Kd.N k27 27 w' w.heap.size (fun k_ => some k_ ≠ (s_.1 : Value).ownBlock ∧ k_ ≠ gb261 ∧ k_ ≠ s_.2.2) s_.2.1 y265) ∧ (w'.heap[gb261]? = some (.cells #[.int .i64 t256, .slice Ao36 t257.length co36] 27 (0, 0))) ∧ (w'.heap[s_.2.2]? = some (.cells #[.int .i64 0, .slice none 0 0] 27 (0, 0))) ∧ (w.heap.size ≤ s_.2.2) ∧ (w.heap.size ≤ s_.2.2) ∧ (gb261 ≠ s_.2.2) ∧ (s_.2.2 ≠ gb261) ∧ (Below w.heap.size w w')) ?_ ?_
             rotate_left
             ·
              intro hJ0_3_10
              refine join_ (σ := Value × Nat) 7 #[true, true, true, false, true, true, false, false, false, false, true, false, false] (fun s_ => [(70, s_.1), (75, .agg #[.int .i64 t268, .int .i64 t269, .int .i64 t270, .int .i64 t271, .int .i64 t272, .int .i64 t273]), (18, .pointer (some ⟨s_.2, 0, none⟩)), (71, .agg #[.int .i64 11, s_.1])]) (fun s_ w' => (w'.cell? ⟨gb261, 0, none⟩ = some (.int .i64 t256) ∧ w'.cell? ⟨gb261, 1, none⟩ = some (.slice Ao36 t257.length co36) ∧ Kd.R (Kd.int .i64) 3 w' w.heap.size (fun _ => True) (.slice Ao36 t257.length co36) t257) ∧ (Kd.R (Kd.int .i64) 3 w' w.heap.size (fun k_ => some k_ ≠ (.slice Ao36 t257.length co36 : Value).ownBlock) s_.1 y262) ∧ (Kd.R (Kd.int .i64) 3 w' w.heap.size (fun k_ => some k_ ≠ (s_.1 : Value).ownBlock) (.slice Ao36 t257.length co36) t257) ∧ (w'.heap[gb261]? = some (.cells #[.int .i64 t256, .slice Ao36 t257.length co36] 27 (0, 0))) ∧ (w'.heap[s_.2]? = some (.cells #[.int .i64 0, .slice none 0 0] 27 (0, 0))) ∧ (w.heap.size ≤ s_.2) ∧ (w.heap.size ≤ s_.2) ∧ (gb261 ≠ s_.2) ∧ (s_.2 ≠ gb261) ∧ (Below w.heap.size w w')) ?_ ?_
              rotate_left
              ·
               intro hJ0_5_10
               refine join_ (σ := Value × Nat) 8 #[false, false, true, true, true, true, false, false, false, false, true, false, false] (fun s_ => [(73, s_.1), (75, .agg #[.int .i64 t268, .int .i64 t269, .int .i64 t270, .int .i64 t271, .int .i64 t272, .int .i64 t273]), (18, .pointer (some ⟨s_.2, 0, none⟩))]) (fun s_ w' => (w'.cell? ⟨gb261, 0, none⟩ = some (.int .i64 t256) ∧ w'.cell? ⟨gb261, 1, none⟩ = some (.slice Ao36 t257.length co36) ∧ Kd.R (Kd.int .i64) 3 w' w.heap.size (fun _ => True) (.slice Ao36 t257.length co36) t257) ∧ (Kd.N k27 27 w' w.heap.size (fun k_ => k_ ≠ gb261 ∧ k_ ≠ s_.2) s_.1 y265) ∧ (w'.heap[gb261]? = some (.cells #[.int .i64 t256, .slice Ao36 t257.length co36] 27 (0, 0))) ∧ (w'.heap[s_.2]? = some (.cells #[.int .i64 0, .slice none 0 0] 27 (0, 0))) ∧ (w.heap.size ≤ s_.2) ∧ (w.heap.size ≤ s_.2) ∧ (gb261 ≠ s_.2) ∧ (s_.2 ≠ gb261) ∧ (Below w.heap.size w w')) ?_ ?_
               rotate_left
               ·
                intro hJ3_5_10
                refine join_ (σ := Value × Value) 8 #[true, true, true, true, true, false, false, false, false, false, false, false, false] (fun s_ => [(70, s_.1), (73, s_.2), (71, .agg #[.int .i64 11, s_.1])]) (fun s_ w' => (w'.cell? ⟨gb261, 0, none⟩ = some (.int .i64 t256) ∧ w'.cell? ⟨gb261, 1, none⟩ = some (.slice Ao36 t257.length co36) ∧ Kd.R (Kd.int .i64) 3 w' w.heap.size (fun _ => True) (.slice Ao36 t257.length co36) t257) ∧ (Kd.R (Kd.int .i64) 3 w' w.heap.size (fun _ => True) s_.1 y262) ∧ (Kd.N k27 27 w' w.heap.size (fun k_ => some k_ ≠ (s_.1 : Value).ownBlock ∧ k_ ≠ gb261) s_.2 y265) ∧ (w'.heap[gb261]? = some (.cells #[.int .i64 t256, .slice Ao36 t257.length co36] 27 (0, 0))) ∧ (Below w.heap.size w w')) ?_ ?_
                rotate_left
                ·
                 intro hJ0_3
                 refine join_ (σ := Value) 8 #[true, true, true, false, true, true, false, false, false, false, false, false, false] (fun s_ => [(70, s_), (75, .agg #[.int .i64 t268, .int .i64 t269, .int .i64 t270, .int .i64 t271, .int .i64 t272, .int .i64 t273]), (71, .agg #[.int .i64 11, s_])]) (fun s_ w' => (w'.cell? ⟨gb261, 0, none⟩ = some (.int .i64 t256) ∧ w'.cell? ⟨gb261, 1, none⟩ = some (.slice Ao36 t257.length co36) ∧ Kd.R (Kd.int .i64) 3 w' w.heap.size (fun _ => True) (.slice Ao36 t257.length co36) t257) ∧ (Kd.R (Kd.int .i64) 3 w' w.heap.size (fun k_ => some k_ ≠ (.slice Ao36 t257.length co36 : Value).ownBlock) s_ y262) ∧ (Kd.R (Kd.int .i64) 3 w' w.heap.size (fun k_ => some k_ ≠ (s_ : Value).ownBlock) (.slice Ao36 t257.length co36) t257) ∧ (w'.heap[gb261]? = some (.cells #[.int .i64 t256, .slice Ao36 t257.length co36] 27 (0, 0))) ∧ (Below w.heap.size w w')) ?_ ?_
                 rotate_left
                 ·
                  intro hJ0_5
                  refine join_ (σ := Value × Nat) 8 #[true, true, true, false, true, false, false, false, false, false, true, false, false] (fun s_ => [(70, s_.1), (18, .pointer (some ⟨s_.2, 0, none⟩)), (71, .agg #[.int .i64 11, s_.1])]) (fun s_ w' => (w'.cell? ⟨gb261, 0, none⟩ = some (.int .i64 t256) ∧ w'.cell? ⟨gb261, 1, none⟩ = some (.slice Ao36 t257.length co36) ∧ Kd.R (Kd.int .i64) 3 w' w.heap.size (fun _ => True) (.slice Ao36 t257.length co36) t257) ∧ (Kd.R (Kd.int .i64) 3 w' w.heap.size (fun k_ => some k_ ≠ (.slice Ao36 t257.length co36 : Value).ownBlock) s_.1 y262) ∧ (Kd.R (Kd.int .i64) 3 w' w.heap.size (fun k_ => some k_ ≠ (s_.1 : Value).ownBlock) (.slice Ao36 t257.length co36) t257) ∧ (w'.heap[gb261]? = some (.cells #[.int .i64 t256, .slice Ao36 t257.length co36] 27 (0, 0))) ∧ (w'.heap[s_.2]? = some (.cells #[.int .i64 0, .slice none 0 0] 27 (0, 0))) ∧ (w.heap.size ≤ s_.2) ∧ (w.heap.size ≤ s_.2) ∧ (gb261 ≠ s_.2) ∧ (s_.2 ≠ gb261) ∧ (Below w.heap.size w w')) ?_ ?_
                  rotate_left
                  ·
                   intro hJ0_10
                   refine join_ (σ := Value) 9 #[false, false, true, true, true, true, false, false, false, false, false, false, false] (fun s_ => [(73, s_), (75, .agg #[.int .i64 t268, .int .i64 t269, .int .i64 t270, .int .i64 t271, .int .i64 t272, .int .i64 t273])]) (fun s_ w' => (w'.cell? ⟨gb261, 0, none⟩ = some (.int .i64 t256) ∧ w'.cell? ⟨gb261, 1, none⟩ = some (.slice Ao36 t257.length co36) ∧ Kd.R (Kd.int .i64) 3 w' w.heap.size (fun _ => True) (.slice Ao36 t257.length co36) t257) ∧ (Kd.N k27 27 w' w.heap.size (fun k_ => k_ ≠ gb261) s_ y265) ∧ (w'.heap[gb261]? = some (.cells #[.int .i64 t256, .slice Ao36 t257.length co36] 27 (0, 0))) ∧ (Below w.heap.size w w')) ?_ ?_
                   rotate_left
                   ·
                    intro hJ3_5
                    refine join_ (σ := Value × Nat) 9 #[false, false, true, true, true, false, false, false, false, false, true, false, false] (fun s_ => [(73, s_.1), (18, .pointer (some ⟨s_.2, 0, none⟩))]) (fun s_ w' => (w'.cell? ⟨gb261, 0, none⟩ = some (.int .i64 t256) ∧ w'.cell? ⟨gb261, 1, none⟩ = some (.slice Ao36 t257.length co36) ∧ Kd.R (Kd.int .i64) 3 w' w.heap.size (fun _ => True) (.slice Ao36 t257.length co36) t257) ∧ (Kd.N k27 27 w' w.heap.size (fun k_ => k_ ≠ gb261 ∧ k_ ≠ s_.2) s_.1 y265) ∧ (w'.heap[gb261]? = some (.cells #[.int .i64 t256, .slice Ao36 t257.length co36] 27 (0, 0))) ∧ (w'.heap[s_.2]? = some (.cells #[.int .i64 0, .slice none 0 0] 27 (0, 0))) ∧ (w.heap.size ≤ s_.2) ∧ (w.heap.size ≤ s_.2) ∧ (gb261 ≠ s_.2) ∧ (s_.2 ≠ gb261) ∧ (Below w.heap.size w w')) ?_ ?_
                    rotate_left
                    ·
                     intro hJ3_10
                     refine join_ (σ := Nat) 9 #[false, false, true, false, true, true, false, false, false, false, true, false, false] (fun s_ => [(75, .agg #[.int .i64 t268, .int .i64 t269, .int .i64 t270, .int .i64 t271, .int .i64 t272, .int .i64 t273]), (18, .pointer (some ⟨s_, 0, none⟩))]) (fun s_ w' => (w'.cell? ⟨gb261, 0, none⟩ = some (.int .i64 t256) ∧ w'.cell? ⟨gb261, 1, none⟩ = some (.slice Ao36 t257.length co36) ∧ Kd.R (Kd.int .i64) 3 w' w.heap.size (fun _ => True) (.slice Ao36 t257.length co36) t257) ∧ (Kd.R (Kd.int .i64) 3 w' w.heap.size (fun _ => True) (.slice Ao36 t257.length co36) t257) ∧ (w'.heap[gb261]? = some (.cells #[.int .i64 t256, .slice Ao36 t257.length co36] 27 (0, 0))) ∧ (w'.heap[s_]? = some (.cells #[.int .i64 0, .slice none 0 0] 27 (0, 0))) ∧ (w.heap.size ≤ s_) ∧ (w.heap.size ≤ s_) ∧ (gb261 ≠ s_) ∧ (s_ ≠ gb261) ∧ (Below w.heap.size w w')) ?_ ?_
                     rotate_left
                     ·
                      intro hJ5_10
                      refine join_ (σ := Value) 9 #[true, true, true, false, true, false, false, false, false, false, false, false, false] (fun s_ => [(70, s_), (71, .agg #[.int .i64 11, s_])]) (fun s_ w' => (w'.cell? ⟨gb261, 0, none⟩ = some (.int .i64 t256) ∧ w'.cell? ⟨gb261, 1, none⟩ = some (.slice Ao36 t257.length co36) ∧ Kd.R (Kd.int .i64) 3 w' w.heap.size (fun _ => True) (.slice Ao36 t257.length co36) t257) ∧ (Kd.R (Kd.int .i64) 3 w' w.heap.size (fun k_ => some k_ ≠ (.slice Ao36 t257.length co36 : Value).ownBlock) s_ y262) ∧ (Kd.R (Kd.int .i64) 3 w' w.heap.size (fun k_ => some k_ ≠ (s_ : Value).ownBlock) (.slice Ao36 t257.length co36) t257) ∧ (w'.heap[gb261]? = some (.cells #[.int .i64 t256, .slice Ao36 t257.length co36] 27 (0, 0))) ∧ (Below w.heap.size w w')) ?_ ?_
                      rotate_left
                      ·
                       intro hJ0
                       refine join_ (σ := Value) 10 #[false, false, true, true, true, false, false, false, false, false, false, false, false] (fun s_ => [(73, s_)]) (fun s_ w' => (w'.cell? ⟨gb261, 0, none⟩ = some (.int .i64 t256) ∧ w'.cell? ⟨gb261, 1, none⟩ = some (.slice Ao36 t257.length co36) ∧ Kd.R (Kd.int .i64) 3 w' w.heap.size (fun _ => True) (.slice Ao36 t257.length co36) t257) ∧ (Kd.N k27 27 w' w.heap.size (fun k_ => k_ ≠ gb261) s_ y265) ∧ (w'.heap[gb261]? = some (.cells #[.int .i64 t256, .slice Ao36 t257.length co36] 27 (0, 0))) ∧ (Below w.heap.size w w')) ?_ ?_
                       rotate_left
                       ·
                        intro hJ3
                        refine join_ (σ := Unit) 10 #[false, false, true, false, true, true, false, false, false, false, false, false, false] (fun s_ => [(75, .agg #[.int .i64 t268, .int .i64 t269, .int .i64 t270, .int .i64 t271, .int .i64 t272, .int .i64 t273])]) (fun s_ w' => (w'.cell? ⟨gb261, 0, none⟩ = some (.int .i64 t256) ∧ w'.cell? ⟨gb261, 1, none⟩ = some (.slice Ao36 t257.length co36) ∧ Kd.R (Kd.int .i64) 3 w' w.heap.size (fun _ => True) (.slice Ao36 t257.length co36) t257) ∧ (Kd.R (Kd.int .i64) 3 w' w.heap.size (fun _ => True) (.slice Ao36 t257.length co36) t257) ∧ (w'.heap[gb261]? = some (.cells #[.int .i64 t256, .slice Ao36 t257.length co36] 27 (0, 0))) ∧ (Below w.heap.size w w')) ?_ ?_
                        rotate_left
                        ·
                         intro hJ5
                         refine join_ (σ := Nat) 10 #[false, false, true, false, true, false, false, false, false, false, true, false, false] (fun s_ => [(18, .pointer (some ⟨s_, 0, none⟩))]) (fun s_ w' => (w'.cell? ⟨gb261, 0, none⟩ = some (.int .i64 t256) ∧ w'.cell? ⟨gb261, 1, none⟩ = some (.slice Ao36 t257.length co36) ∧ Kd.R (Kd.int .i64) 3 w' w.heap.size (fun _ => True) (.slice Ao36 t257.length co36) t257) ∧ (Kd.R (Kd.int .i64) 3 w' w.heap.size (fun _ => True) (.slice Ao36 t257.length co36) t257) ∧ (w'.heap[gb261]? = some (.cells #[.int .i64 t256, .slice Ao36 t257.length co36] 27 (0, 0))) ∧ (w'.heap[s_]? = some (.cells #[.int .i64 0, .slice none 0 0] 27 (0, 0))) ∧ (w.heap.size ≤ s_) ∧ (w.heap.size ≤ s_) ∧ (gb261 ≠ s_) ∧ (s_ ≠ gb261) ∧ (Below w.heap.size w w')) ?_ ?_
                         rotate_left
                         ·
                          intro hJ10
                          refine four_ (i := 0) (j := 3) (k := 5) (m := 10) (Ni := some 70) (Nj := some 73) (Nk := some 75) (Nm := some 18) #[true, false, true, false, true, false, false, false, false, false, false, false, false] #[false, false, true, true, true, false, false, false, false, false, false, false, false] #[false, false, true, false, true, true, false, false, false, false, false, false, false] #[false, false, true, false, true, false, false, false, false, false, true, false, false] rfl rfl rfl rfl rfl rfl rfl rfl (four_of HT_.out (by kernel_rfl)) (by decide) (by decide) (by decide) (by decide) (fun K hK => ?_) (fun K hK => ?_) (fun K hK => ?_) (fun K hK => ?_)
                          ·
                           skip
                           refine Kd.R_lit_step (Kd.int .i64) _ 3 ?hg (N := 70) ?hd (xs := ([0] : List Int)) (inner := [.int .i64 0]) (ok := fun _ => True) (okp := fun _ => True) ?hr ?hp (fun _ hk => hk) trivial (Below.refl _ _) (Nat.le_refl _) (by simp) ?_; (case hd => rfl); (case hg => rfl); (case hr => first | (go_simp; done) | (go_simp; rfl)); (case hp => exact (Reps.one (show Kd.M (Kd.int .i64) _ _ _ 0 [.int .i64 0] from rfl) (Reps.none _ _)))
                           intro v263 w47 ho48 hb hg_ hnew_
                           have RD_ := Kd.R_below (by repeat (first | exact hHeld.2.2 | (with_reducible refine Kd.R_alloc ?_ _) | (with_reducible refine Kd.R_drewN ?_ _) | (with_reducible refine Kd.R_drew ?_))) hb
                           clear hg_ hnew_
                           (first | rw [← Ny262.out] at ho48 | (simp only [Int.reduceToNat] at ho48; rw [← Ny262.out] at ho48))
                           have n0_ := Aside0.mk (Kd.R_elder' (by (with_reducible repeat (first | apply Kd.R_alloc | apply Kd.R_drewN | apply Kd.R_drew)); exact HO_262001.out) (Kd.R_base ho48) hb)
                           have n1_ := Aside0.mk (Kd.R_lower (Kd.R_new' ho48 (Kd.R_lt (by (with_reducible repeat (first | apply Kd.R_alloc | apply Kd.R_drewN | apply Kd.R_drew)); exact HO_262001.out))) (below_size (by repeat (first | (with_reducible first | exact HB.out | apply below_alloc | apply pw_below_drewN | apply below_drew1 | refine below_set ?_ GE261.out) | exact HB.out))))
                           have n2_ := Aside0.mk (blk_below (g := gb261) (o := .cells #[.int .i64 t256, .slice Ao36 t257.length co36] 27 (0, 0)) (by (with_reducible repeat (first | refine blk_drewN ?_ _ | refine blk_drew ?_ | refine blk_alloc ?_ _)); exact BK261.out) hb)
                           have n3_ := Aside0.mk (below_step (by repeat (first | (with_reducible first | exact HB.out | apply below_alloc | apply pw_below_drewN | apply below_drew1 | refine below_set ?_ GE261.out) | exact HB.out)) hb)
                           clear HO_262001
                           clear BK261
                           clear HB
                           have HO_262001 := n0_
                           have HO264 := n1_
                           have BK261 := n2_
                           have HB := n3_
                           clear n0_ n1_ n2_ n3_
                           clear hb ho48
                           obtain ⟨Ao49, co49, eo49⟩ := Kd.R_slice HO264.out
                           (first | subst eo49 | (injection eo49 with f1_ f2_ f3_; have f4_ := f1_.symm; have f5_ := f3_.symm; clear f1_ f2_ f3_; subst f4_; subst f5_))
                           refine hK.out _ _ ⟨(blk_cell BK261.out 0).trans rfl, (blk_cell BK261.out 1).trans rfl, RD_⟩ (fun hHeld => ?_)
                           clear hK K
                           refine norm_ (a' := ?_) ?_ ?_
                           rotate_left
                           ·
                            show Act.put _ (some 70) _ = _
                            simp only [Act.put, List.setIfInBounds_toArray, List.set_cons_zero, List.set_cons_succ, i64_w, i32_w]
                            rfl
                           refine pure_ (i := 1) (N := some 71) (v := ?_) (a' := ?_) #[true, true, true, false, true, false, false, false, false, false, false, false, false] rfl rfl (any_of HT_.out (by kernel_rfl)) (fun _ _ _ h => h) (Or.inl ⟨by rfl, ?_⟩) ?_ ?_
                           rotate_left
                           ·
                            intro w'
                            go_simp
                            with_reducible rfl
                           rotate_left
                           ·
                            simp only [Act.put, List.setIfInBounds_toArray, List.set_cons_zero, List.set_cons_succ, i64_w, i32_w]
                            rfl
                           exact norm_ (by first | (simp only [putAll, Act.put, List.setIfInBounds_toArray, List.set_cons_zero, List.set_cons_succ]; done) | (simp only [putAll, Act.put, List.setIfInBounds_toArray, List.set_cons_zero, List.set_cons_succ]; rfl)) (hJ0 (.slice Ao49 y262.length co49) _ ⟨hHeld, (by (with_reducible repeat (first | apply Kd.R_alloc | apply Kd.R_drewN | apply Kd.R_drew)); exact Kd.R_mono HO264.out (fun _ hk => hk.2)), (by (with_reducible repeat (first | apply Kd.R_alloc | apply Kd.R_drewN | apply Kd.R_drew)); exact Kd.R_mono HO_262001.out (fun _ hk => hk.2)), (by (with_reducible repeat (first | refine blk_drewN ?_ _ | refine blk_drew ?_ | refine blk_alloc ?_ _)); exact BK261.out), (by repeat (first | (with_reducible first | exact HB.out | apply below_alloc | apply pw_below_drewN | apply below_drew1 | refine below_set ?_ GE261.out) | exact HB.out))⟩)
                          ·
                           skip
                           refine Kd.N_lit_step k27 _ 27 ?hg (N' := 73) ?hd (xs := ([(⟨t256, t257⟩ : S27)] : List (S27))) (inner := [.int .i64 t256, .slice Ao36 t257.length co36]) (ok := (fun k_ => k_ ≠ gb261)) (okp := (fun k_ => k_ ≠ gb261)) ?hr ?hp (fun _ hk => hk) ((show ∀ k_, w46.heap.size ≤ k_ → (fun k_ => k_ ≠ gb261) k_ from fun k_ hk => Kd.freshB (g := gb261) (o := .cells #[.int .i64 t256, .slice Ao36 t257.length co36] 27 (0, 0)) (by (with_reducible repeat (first | refine blk_drewN ?_ _ | refine blk_drew ?_ | refine blk_alloc ?_ _)); exact BK261.out) k_ hk) _ (Nat.le_refl _)) (Below.refl _ _) (Nat.le_refl _) (by simp) ?_; (case hd => rfl); (case hg => rfl); (case hr => first | (go_simp; done) | (go_simp; rfl)); (case hp => exact (Reps.c2 (show Kd.FK k27 _ _ (⟨t256, t257⟩ : S27) [.int .i64 t256, .slice Ao36 t257.length co36] from (k27_mkF _ _ (⟨t256, t257⟩ : S27) (Kd.R_reads' (Kd.R_mono (ok' := (fun k_ => k_ ≠ gb261)) (Kd.R_types (HO_262001.out) BK261.out (by decide)) (fun k_ hk => hk.2))).2.1 (Kd.R_F (Kd.R_mono (ok' := (fun k_ => k_ ≠ gb261)) (Kd.R_types (HO_262001.out) BK261.out (by decide)) (fun k_ hk => hk.2))))) (Reps.none _ _)))
                           intro v266 w47 ho48 hb hg_ hnew_
                           have RD_ := Kd.R_below (by repeat (first | exact hHeld.2.2 | (with_reducible refine Kd.R_alloc ?_ _) | (with_reducible refine Kd.R_drewN ?_ _) | (with_reducible refine Kd.R_drew ?_))) hb
                           clear hg_ hnew_
                           (first | rw [← Ny265.out] at ho48 | (simp only [Int.reduceToNat] at ho48; rw [← Ny265.out] at ho48))
                           have n0_ := Aside0.mk (Kd.N_lower ho48 (below_size (by repeat (first | (with_reducible first | exact HB.out | apply below_alloc | apply pw_below_drewN | apply below_drew1 | refine below_set ?_ GE261.out) | exact HB.out))))
                           have n1_ := Aside0.mk (blk_below (g := gb261) (o := .cells #[.int .i64 t256, .slice Ao36 t257.length co36] 27 (0, 0)) (by (with_reducible repeat (first | refine blk_drewN ?_ _ | refine blk_drew ?_ | refine blk_alloc ?_ _)); exact BK261.out) hb)
                           have n2_ := Aside0.mk (below_step (by repeat (first | (with_reducible first | exact HB.out | apply below_alloc | apply pw_below_drewN | apply below_drew1 | refine below_set ?_ GE261.out) | exact HB.out)) hb)
                           clear BK261
                           clear HB
                           clear HO_262001
                           have HO267 := n0_
                           have BK261 := n1_
                           have HB := n2_
                           clear n0_ n1_ n2_
                           clear hb ho48
                           refine hK.out _ _ ⟨(blk_cell BK261.out 0).trans rfl, (blk_cell BK261.out 1).trans rfl, RD_⟩ (fun hHeld => ?_)
                           clear hK K
                           refine norm_ (a' := ?_) ?_ ?_
                           rotate_left
                           ·
                            show Act.put _ (some 73) _ = _
                            simp only [Act.put, List.setIfInBounds_toArray, List.set_cons_zero, List.set_cons_succ, i64_w, i32_w]
                            rfl
                           exact norm_ (by first | (simp only [putAll, Act.put, List.setIfInBounds_toArray, List.set_cons_zero, List.set_cons_succ]; done) | (simp only [putAll, Act.put, List.setIfInBounds_toArray, List.set_cons_zero, List.set_cons_succ]; rfl)) (hJ3 (v266) _ ⟨hHeld, (by (with_reducible repeat (first | apply Kd.N_alloc | apply Kd.N_drewN | apply Kd.N_drew)); exact HO267.out), (by (with_reducible repeat (first | refine blk_drewN ?_ _ | refine blk_drew ?_ | refine blk_alloc ?_ _)); exact BK261.out), (by repeat (first | (with_reducible first | exact HB.out | apply below_alloc | apply pw_below_drewN | apply below_drew1 | refine below_set ?_ GE261.out) | exact HB.out))⟩)
                          ·
                           skip
                           refine goes_ Try.func21 (by kernel_rfl) rfl #[.int .i64 a3] (by rfl) rfl rfl (by (try simp only [List.map_toArray, List.map_cons, List.map_nil]); first | done | rfl | (simp only [List.length_drop, List.length_take]; rfl)) ?_
                           with_reducible refine (interlocutorlaw8_Ref.calls a3 t268 t269 t270 t271 t272 t273 _ A39.out).mono ?_
                           rintro e w47 ⟨rfl, hb⟩
                           have RD_ := Kd.R_below (by repeat (first | exact hHeld.2.2 | (with_reducible refine Kd.R_alloc ?_ _) | (with_reducible refine Kd.R_drewN ?_ _) | (with_reducible refine Kd.R_drew ?_))) hb
                           refine ⟨_, rfl, ?_⟩
                           have n0_ := Aside0.mk (Kd.R_below (by (with_reducible repeat (first | apply Kd.R_alloc | apply Kd.R_drewN | apply Kd.R_drew)); exact HO_262001.out) hb)
                           have n1_ := Aside0.mk (blk_below (g := gb261) (o := .cells #[.int .i64 t256, .slice Ao36 t257.length co36] 27 (0, 0)) (by (with_reducible repeat (first | refine blk_drewN ?_ _ | refine blk_drew ?_ | refine blk_alloc ?_ _)); exact BK261.out) hb)
                           have n2_ := Aside0.mk (below_step (by repeat (first | (with_reducible first | exact HB.out | apply below_alloc | apply pw_below_drewN | apply below_drew1 | refine below_set ?_ GE261.out) | exact HB.out)) hb)
                           clear HO_262001
                           clear BK261
                           clear HB
                           have HO_262001 := n0_
                           have BK261 := n1_
                           have HB := n2_
                           clear n0_ n1_ n2_
                           (try clear hb)
                           (try clear hb2)
                           (try clear hk)
                           (try clear hi)
                           refine hK.out _ _ ⟨(blk_cell BK261.out 0).trans rfl, (blk_cell BK261.out 1).trans rfl, RD_⟩ (fun hHeld => ?_)
                           clear hK K
                           refine norm_ (a' := ?_) ?_ ?_
                           rotate_left
                           ·
                            show Act.put _ (some 75) _ = _
                            simp only [Act.put, List.setIfInBounds_toArray, List.set_cons_zero, List.set_cons_succ, i64_w, i32_w]
                            rfl
                           exact norm_ (by first | (simp only [putAll, Act.put, List.setIfInBounds_toArray, List.set_cons_zero, List.set_cons_succ]; done) | (simp only [putAll, Act.put, List.setIfInBounds_toArray, List.set_cons_zero, List.set_cons_succ]; rfl)) (hJ5 () _ ⟨hHeld, (by (with_reducible repeat (first | apply Kd.R_alloc | apply Kd.R_drewN | apply Kd.R_drew)); exact HO_262001.out), (by (with_reducible repeat (first | refine blk_drewN ?_ _ | refine blk_drew ?_ | refine blk_alloc ?_ _)); exact BK261.out), (by repeat (first | (with_reducible first | exact HB.out | apply below_alloc | apply pw_below_drewN | apply below_drew1 | refine below_set ?_ GE261.out) | exact HB.out))⟩)
                          ·
                           skip
                           refine box_step ?hg (N := 18) ?hd (cs := #[.int .i64 0, .slice none 0 0]) (t := 27) ?hr ?_; (case hd => rfl); (case hg => rfl); (case hr => first | (go_simp; done) | (go_simp; rfl))
                           intro gb279 hg w47 hbox hb
                           have RD_ := Kd.R_below (by repeat (first | exact hHeld.2.2 | (with_reducible refine Kd.R_alloc ?_ _) | (with_reducible refine Kd.R_drewN ?_ _) | (with_reducible refine Kd.R_drew ?_))) hb
                           have n0_ := Aside0.mk (Kd.R_below (by (with_reducible repeat (first | apply Kd.R_alloc | apply Kd.R_drewN | apply Kd.R_drew)); exact HO_262001.out) hb)
                           have n1_ := Aside0.mk (blk_below (g := gb261) (o := .cells #[.int .i64 t256, .slice Ao36 t257.length co36] 27 (0, 0)) (by (with_reducible repeat (first | refine blk_drewN ?_ _ | refine blk_drew ?_ | refine blk_alloc ?_ _)); exact BK261.out) hb)
                           have n2_ := Aside0.mk (below_step (by repeat (first | (with_reducible first | exact HB.out | apply below_alloc | apply pw_below_drewN | apply below_drew1 | refine below_set ?_ GE261.out) | exact HB.out)) hb)
                           have n3_ := Aside0.mk (hbox)
                           have n4_ := Aside0.mk ((by rw [hg]; exact (below_size (by repeat (first | (with_reducible first | exact HB.out | apply below_alloc | apply pw_below_drewN | apply below_drew1 | refine below_set ?_ GE261.out) | exact HB.out))) : w.heap.size ≤ gb279))
                           have n5_ := Aside0.mk ((by rw [hg]; exact (below_size (by repeat (first | (with_reducible first | exact HB.out | apply below_alloc | apply pw_below_drewN | apply below_drew1 | refine below_set ?_ GE261.out) | exact HB.out))) : w.heap.size ≤ gb279))
                           have n6_ := Aside0.mk ((by rw [hg]; exact Nat.ne_of_lt (blk_lt (g := gb261) (o := .cells #[.int .i64 t256, .slice Ao36 t257.length co36] 27 (0, 0)) (by (with_reducible repeat (first | refine blk_drewN ?_ _ | refine blk_drew ?_ | refine blk_alloc ?_ _)); exact BK261.out)) : gb261 ≠ gb279))
                           have n7_ := Aside0.mk ((by rw [hg]; exact Nat.ne_of_gt (blk_lt (g := gb261) (o := .cells #[.int .i64 t256, .slice Ao36 t257.length co36] 27 (0, 0)) (by (with_reducible repeat (first | refine blk_drewN ?_ _ | refine blk_drew ?_ | refine blk_alloc ?_ _)); exact BK261.out)) : gb279 ≠ gb261))
                           clear HO_262001
                           clear BK261
                           clear HB
                           have HO_262001 := n0_
                           have BK261 := n1_
                           have HB := n2_
                           have BK279 := n3_
                           have GW279 := n4_
                           have GE279 := n5_
                           have NB261_279 := n6_
                           have NB279_261 := n7_
                           clear n0_ n1_ n2_ n3_ n4_ n5_ n6_ n7_
                           clear hb hbox hg
                           refine hK.out _ _ ⟨(blk_cell BK261.out 0).trans rfl, (blk_cell BK261.out 1).trans rfl, RD_⟩ (fun hHeld => ?_)
                           clear hK K
                           refine norm_ (a' := ?_) ?_ ?_
                           rotate_left
                           ·
                            show Act.put _ (some 18) _ = _
                            simp only [Act.put, List.setIfInBounds_toArray, List.set_cons_zero, List.set_cons_succ, i64_w, i32_w]
                            rfl
                           exact norm_ (by first | (simp only [putAll, Act.put, List.setIfInBounds_toArray, List.set_cons_zero, List.set_cons_succ]; done) | (simp only [putAll, Act.put, List.setIfInBounds_toArray, List.set_cons_zero, List.set_cons_succ]; rfl)) (hJ10 (gb279) _ ⟨hHeld, (by (with_reducible repeat (first | apply Kd.R_alloc | apply Kd.R_drewN | apply Kd.R_drew)); exact HO_262001.out), (by (with_reducible repeat (first | refine blk_drewN ?_ _ | refine blk_drew ?_ | refine blk_alloc ?_ _)); exact BK261.out), (by (with_reducible repeat (first | refine blk_drewN ?_ _ | refine blk_drew ?_ | refine blk_alloc ?_ _)); exact BK279.out), GW279.out, GE279.out, NB261_279.out, NB279_261.out, (by repeat (first | (with_reducible first | exact HB.out | apply below_alloc | apply pw_below_drewN | apply below_drew1 | refine below_set ?_ GE261.out | refine below_set ?_ GE279.out) | exact HB.out))⟩)
                         ·
                          skip
                          rintro gb279 w48 ⟨hS_, h0_, h1_, h2_, h3_, h4_, h5_, h6_, h7_⟩
                          have n0_ : Aside0 (Kd.R (Kd.int .i64) 3 w48 w.heap.size (fun _ => True) (.slice Ao36 t257.length co36) t257) := ⟨h0_⟩
                          have n1_ : Aside0 (w48.heap[gb261]? = some (.cells #[.int .i64 t256, .slice Ao36 t257.length co36] 27 (0, 0))) := ⟨h1_⟩
                          have n2_ : Aside0 (w48.heap[gb279]? = some (.cells #[.int .i64 0, .slice none 0 0] 27 (0, 0))) := ⟨h2_⟩
                          have n3_ : Aside0 (w.heap.size ≤ gb279) := ⟨h3_⟩
                          have n4_ : Aside0 (w.heap.size ≤ gb279) := ⟨h4_⟩
                          have n5_ : Aside0 (gb261 ≠ gb279) := ⟨h5_⟩
                          have n6_ : Aside0 (gb279 ≠ gb261) := ⟨h6_⟩
                          have n7_ : Aside0 (Below w.heap.size w w48) := ⟨h7_⟩
                          clear HO_262001
                          clear BK261
                          clear HB
                          clear h0_ h1_ h2_ h3_ h4_ h5_ h6_ h7_
                          have HO_262001 := n0_
                          have BK261 := n1_
                          have BK279 := n2_
                          have GW279 := n3_
                          have GE279 := n4_
                          have NB261_279 := n5_
                          have NB279_261 := n6_
                          have HB := n7_
                          clear n0_ n1_ n2_ n3_ n4_ n5_ n6_ n7_
                          have hHeld : w48.cell? ⟨gb261, 0, none⟩ = some (.int .i64 t256) ∧ w48.cell? ⟨gb261, 1, none⟩ = some (.slice Ao36 t257.length co36) ∧ Kd.R (Kd.int .i64) 3 w48 w.heap.size (fun _ => True) (.slice Ao36 t257.length co36) t257 := hS_
                          refine norm_ (a' := ?_) ?_ ?_
                          rotate_left
                          ·
                           simp only [putAll, Act.put, List.setIfInBounds_toArray, List.set_cons_zero, List.set_cons_succ]
                           rfl
                          refine three_ (i := 0) (j := 3) (k := 5) (Ni := some 70) (Nj := some 73) (Nk := some 75) #[true, false, true, false, true, false, false, false, false, false, true, false, false] #[false, false, true, true, true, false, false, false, false, false, true, false, false] #[false, false, true, false, true, true, false, false, false, false, true, false, false] rfl rfl rfl rfl rfl rfl (three_of HT_.out (by kernel_rfl)) (by decide) (by decide) (by decide) (fun K hK => ?_) (fun K hK => ?_) (fun K hK => ?_)
                          ·
                           skip
                           refine Kd.R_lit_step (Kd.int .i64) _ 3 ?hg (N := 70) ?hd (xs := ([0] : List Int)) (inner := [.int .i64 0]) (ok := fun _ => True) (okp := fun _ => True) ?hr ?hp (fun _ hk => hk) trivial (Below.refl _ _) (Nat.le_refl _) (by simp) ?_; (case hd => rfl); (case hg => rfl); (case hr => first | (go_simp; done) | (go_simp; rfl)); (case hp => exact (Reps.one (show Kd.M (Kd.int .i64) _ _ _ 0 [.int .i64 0] from rfl) (Reps.none _ _)))
                           intro v263 w49 ho50 hb hg_ hnew_
                           have RD_ := Kd.R_below (by repeat (first | exact hHeld.2.2 | (with_reducible refine Kd.R_alloc ?_ _) | (with_reducible refine Kd.R_drewN ?_ _) | (with_reducible refine Kd.R_drew ?_))) hb
                           clear hg_ hnew_
                           (first | rw [← Ny262.out] at ho50 | (simp only [Int.reduceToNat] at ho50; rw [← Ny262.out] at ho50))
                           have n0_ := Aside0.mk (Kd.R_elder' (by (with_reducible repeat (first | apply Kd.R_alloc | apply Kd.R_drewN | apply Kd.R_drew)); exact HO_262001.out) (Kd.R_base ho50) hb)
                           have n1_ := Aside0.mk (Kd.R_lower (Kd.R_new' ho50 (Kd.R_lt (by (with_reducible repeat (first | apply Kd.R_alloc | apply Kd.R_drewN | apply Kd.R_drew)); exact HO_262001.out))) (below_size (by repeat (first | (with_reducible first | exact HB.out | apply below_alloc | apply pw_below_drewN | apply below_drew1 | refine below_set ?_ GE261.out | refine below_set ?_ GE279.out) | exact HB.out))))
                           have n2_ := Aside0.mk (blk_below (g := gb261) (o := .cells #[.int .i64 t256, .slice Ao36 t257.length co36] 27 (0, 0)) (by (with_reducible repeat (first | refine blk_drewN ?_ _ | refine blk_drew ?_ | refine blk_alloc ?_ _)); exact BK261.out) hb)
                           have n3_ := Aside0.mk (blk_below (g := gb279) (o := .cells #[.int .i64 0, .slice none 0 0] 27 (0, 0)) (by (with_reducible repeat (first | refine blk_drewN ?_ _ | refine blk_drew ?_ | refine blk_alloc ?_ _)); exact BK279.out) hb)
                           have n4_ := Aside0.mk (below_step (by repeat (first | (with_reducible first | exact HB.out | apply below_alloc | apply pw_below_drewN | apply below_drew1 | refine below_set ?_ GE261.out | refine below_set ?_ GE279.out) | exact HB.out)) hb)
                           clear HO_262001
                           clear BK261
                           clear BK279
                           clear HB
                           have HO_262001 := n0_
                           have HO264 := n1_
                           have BK261 := n2_
                           have BK279 := n3_
                           have HB := n4_
                           clear n0_ n1_ n2_ n3_ n4_
                           clear hb ho50
                           obtain ⟨Ao51, co51, eo51⟩ := Kd.R_slice HO264.out
                           (first | subst eo51 | (injection eo51 with f1_ f2_ f3_; have f4_ := f1_.symm; have f5_ := f3_.symm; clear f1_ f2_ f3_; subst f4_; subst f5_))
                           refine hK.out _ _ ⟨(blk_cell BK261.out 0).trans rfl, (blk_cell BK261.out 1).trans rfl, RD_⟩ (fun hHeld => ?_)
                           clear hK K
                           refine norm_ (a' := ?_) ?_ ?_
                           rotate_left
                           ·
                            show Act.put _ (some 70) _ = _
                            simp only [Act.put, List.setIfInBounds_toArray, List.set_cons_zero, List.set_cons_succ, i64_w, i32_w]
                            rfl
                           refine pure_ (i := 1) (N := some 71) (v := ?_) (a' := ?_) #[true, true, true, false, true, false, false, false, false, false, true, false, false] rfl rfl (any_of HT_.out (by kernel_rfl)) (fun _ _ _ h => h) (Or.inl ⟨by rfl, ?_⟩) ?_ ?_
                           rotate_left
                           ·
                            intro w'
                            go_simp
                            with_reducible rfl
                           rotate_left
                           ·
                            simp only [Act.put, List.setIfInBounds_toArray, List.set_cons_zero, List.set_cons_succ, i64_w, i32_w]
                            rfl
                           exact norm_ (by first | (simp only [putAll, Act.put, List.setIfInBounds_toArray, List.set_cons_zero, List.set_cons_succ]; done) | (simp only [putAll, Act.put, List.setIfInBounds_toArray, List.set_cons_zero, List.set_cons_succ]; rfl)) (hJ0_10 (.slice Ao51 y262.length co51, gb279) _ ⟨hHeld, (by (with_reducible repeat (first | apply Kd.R_alloc | apply Kd.R_drewN | apply Kd.R_drew)); exact Kd.R_mono HO264.out (fun _ hk => hk.2)), (by (with_reducible repeat (first | apply Kd.R_alloc | apply Kd.R_drewN | apply Kd.R_drew)); exact Kd.R_mono HO_262001.out (fun _ hk => hk.2)), (by (with_reducible repeat (first | refine blk_drewN ?_ _ | refine blk_drew ?_ | refine blk_alloc ?_ _)); exact BK261.out), (by (with_reducible repeat (first | refine blk_drewN ?_ _ | refine blk_drew ?_ | refine blk_alloc ?_ _)); exact BK279.out), GW279.out, GE279.out, NB261_279.out, NB279_261.out, (by repeat (first | (with_reducible first | exact HB.out | apply below_alloc | apply pw_below_drewN | apply below_drew1 | refine below_set ?_ GE261.out | refine below_set ?_ GE279.out) | exact HB.out))⟩)
                          ·
                           skip
                           refine Kd.N_lit_step k27 _ 27 ?hg (N' := 73) ?hd (xs := ([(⟨t256, t257⟩ : S27)] : List (S27))) (inner := [.int .i64 t256, .slice Ao36 t257.length co36]) (ok := (fun k_ => k_ ≠ gb261 ∧ k_ ≠ gb279)) (okp := (fun k_ => k_ ≠ gb261 ∧ k_ ≠ gb279)) ?hr ?hp (fun _ hk => hk) ((show ∀ k_, w48.heap.size ≤ k_ → (fun k_ => k_ ≠ gb261 ∧ k_ ≠ gb279) k_ from fun k_ hk => ⟨Kd.freshB (g := gb261) (o := .cells #[.int .i64 t256, .slice Ao36 t257.length co36] 27 (0, 0)) (by (with_reducible repeat (first | refine blk_drewN ?_ _ | refine blk_drew ?_ | refine blk_alloc ?_ _)); exact BK261.out) k_ hk, Kd.freshB (g := gb279) (o := .cells #[.int .i64 0, .slice none 0 0] 27 (0, 0)) (by (with_reducible repeat (first | refine blk_drewN ?_ _ | refine blk_drew ?_ | refine blk_alloc ?_ _)); exact BK279.out) k_ hk⟩) _ (Nat.le_refl _)) (Below.refl _ _) (Nat.le_refl _) (by simp) ?_; (case hd => rfl); (case hg => rfl); (case hr => first | (go_simp; done) | (go_simp; rfl)); (case hp => exact (Reps.c2 (show Kd.FK k27 _ _ (⟨t256, t257⟩ : S27) [.int .i64 t256, .slice Ao36 t257.length co36] from (k27_mkF _ _ (⟨t256, t257⟩ : S27) (Kd.R_reads' (Kd.R_mono (ok' := (fun k_ => k_ ≠ gb261 ∧ k_ ≠ gb279)) (Kd.R_types (Kd.R_types (HO_262001.out) BK261.out (by decide)) BK279.out (by decide)) (fun k_ hk => ⟨hk.1.2, hk.2⟩))).2.1 (Kd.R_F (Kd.R_mono (ok' := (fun k_ => k_ ≠ gb261 ∧ k_ ≠ gb279)) (Kd.R_types (Kd.R_types (HO_262001.out) BK261.out (by decide)) BK279.out (by decide)) (fun k_ hk => ⟨hk.1.2, hk.2⟩))))) (Reps.none _ _)))
                           intro v266 w49 ho50 hb hg_ hnew_
                           have RD_ := Kd.R_below (by repeat (first | exact hHeld.2.2 | (with_reducible refine Kd.R_alloc ?_ _) | (with_reducible refine Kd.R_drewN ?_ _) | (with_reducible refine Kd.R_drew ?_))) hb
                           clear hg_ hnew_
                           (first | rw [← Ny265.out] at ho50 | (simp only [Int.reduceToNat] at ho50; rw [← Ny265.out] at ho50))
                           have n0_ := Aside0.mk (Kd.N_lower ho50 (below_size (by repeat (first | (with_reducible first | exact HB.out | apply below_alloc | apply pw_below_drewN | apply below_drew1 | refine below_set ?_ GE261.out | refine below_set ?_ GE279.out) | exact HB.out))))
                           have n1_ := Aside0.mk (blk_below (g := gb261) (o := .cells #[.int .i64 t256, .slice Ao36 t257.length co36] 27 (0, 0)) (by (with_reducible repeat (first | refine blk_drewN ?_ _ | refine blk_drew ?_ | refine blk_alloc ?_ _)); exact BK261.out) hb)
                           have n2_ := Aside0.mk (blk_below (g := gb279) (o := .cells #[.int .i64 0, .slice none 0 0] 27 (0, 0)) (by (with_reducible repeat (first | refine blk_drewN ?_ _ | refine blk_drew ?_ | refine blk_alloc ?_ _)); exact BK279.out) hb)
                           have n3_ := Aside0.mk (below_step (by repeat (first | (with_reducible first | exact HB.out | apply below_alloc | apply pw_below_drewN | apply below_drew1 | refine below_set ?_ GE261.out | refine below_set ?_ GE279.out) | exact HB.out)) hb)
                           clear BK261
                           clear BK279
                           clear HB
                           clear HO_262001
                           have HO267 := n0_
                           have BK261 := n1_
                           have BK279 := n2_
                           have HB := n3_
                           clear n0_ n1_ n2_ n3_
                           clear hb ho50
                           refine hK.out _ _ ⟨(blk_cell BK261.out 0).trans rfl, (blk_cell BK261.out 1).trans rfl, RD_⟩ (fun hHeld => ?_)
                           clear hK K
                           refine norm_ (a' := ?_) ?_ ?_
                           rotate_left
                           ·
                            show Act.put _ (some 73) _ = _
                            simp only [Act.put, List.setIfInBounds_toArray, List.set_cons_zero, List.set_cons_succ, i64_w, i32_w]
                            rfl
                           exact norm_ (by first | (simp only [putAll, Act.put, List.setIfInBounds_toArray, List.set_cons_zero, List.set_cons_succ]; done) | (simp only [putAll, Act.put, List.setIfInBounds_toArray, List.set_cons_zero, List.set_cons_succ]; rfl)) (hJ3_10 (v266, gb279) _ ⟨hHeld, (by (with_reducible repeat (first | apply Kd.N_alloc | apply Kd.N_drewN | apply Kd.N_drew)); exact HO267.out), (by (with_reducible repeat (first | refine blk_drewN ?_ _ | refine blk_drew ?_ | refine blk_alloc ?_ _)); exact BK261.out), (by (with_reducible repeat (first | refine blk_drewN ?_ _ | refine blk_drew ?_ | refine blk_alloc ?_ _)); exact BK279.out), GW279.out, GE279.out, NB261_279.out, NB279_261.out, (by repeat (first | (with_reducible first | exact HB.out | apply below_alloc | apply pw_below_drewN | apply below_drew1 | refine below_set ?_ GE261.out | refine below_set ?_ GE279.out) | exact HB.out))⟩)
                          ·
                           skip
                           refine goes_ Try.func21 (by kernel_rfl) rfl #[.int .i64 a3] (by rfl) rfl rfl (by (try simp only [List.map_toArray, List.map_cons, List.map_nil]); first | done | rfl | (simp only [List.length_drop, List.length_take]; rfl)) ?_
                           with_reducible refine (interlocutorlaw8_Ref.calls a3 t268 t269 t270 t271 t272 t273 _ A39.out).mono ?_
                           rintro e w49 ⟨rfl, hb⟩
                           have RD_ := Kd.R_below (by repeat (first | exact hHeld.2.2 | (with_reducible refine Kd.R_alloc ?_ _) | (with_reducible refine Kd.R_drewN ?_ _) | (with_reducible refine Kd.R_drew ?_))) hb
                           refine ⟨_, rfl, ?_⟩
                           have n0_ := Aside0.mk (Kd.R_below (by (with_reducible repeat (first | apply Kd.R_alloc | apply Kd.R_drewN | apply Kd.R_drew)); exact HO_262001.out) hb)
                           have n1_ := Aside0.mk (blk_below (g := gb261) (o := .cells #[.int .i64 t256, .slice Ao36 t257.length co36] 27 (0, 0)) (by (with_reducible repeat (first | refine blk_drewN ?_ _ | refine blk_drew ?_ | refine blk_alloc ?_ _)); exact BK261.out) hb)
                           have n2_ := Aside0.mk (blk_below (g := gb279) (o := .cells #[.int .i64 0, .slice none 0 0] 27 (0, 0)) (by (with_reducible repeat (first | refine blk_drewN ?_ _ | refine blk_drew ?_ | refine blk_alloc ?_ _)); exact BK279.out) hb)
                           have n3_ := Aside0.mk (below_step (by repeat (first | (with_reducible first | exact HB.out | apply below_alloc | apply pw_below_drewN | apply below_drew1 | refine below_set ?_ GE261.out | refine below_set ?_ GE279.out) | exact HB.out)) hb)
                           clear HO_262001
                           clear BK261
                           clear BK279
                           clear HB
                           have HO_262001 := n0_
                           have BK261 := n1_
                           have BK279 := n2_
                           have HB := n3_
                           clear n0_ n1_ n2_ n3_
                           (try clear hb)
                           (try clear hb2)
                           (try clear hk)
                           (try clear hi)
                           refine hK.out _ _ ⟨(blk_cell BK261.out 0).trans rfl, (blk_cell BK261.out 1).trans rfl, RD_⟩ (fun hHeld => ?_)
                           clear hK K
                           refine norm_ (a' := ?_) ?_ ?_
                           rotate_left
                           ·
                            show Act.put _ (some 75) _ = _
                            simp only [Act.put, List.setIfInBounds_toArray, List.set_cons_zero, List.set_cons_succ, i64_w, i32_w]
                            rfl
                           exact norm_ (by first | (simp only [putAll, Act.put, List.setIfInBounds_toArray, List.set_cons_zero, List.set_cons_succ]; done) | (simp only [putAll, Act.put, List.setIfInBounds_toArray, List.set_cons_zero, List.set_cons_succ]; rfl)) (hJ5_10 (gb279) _ ⟨hHeld, (by (with_reducible repeat (first | apply Kd.R_alloc | apply Kd.R_drewN | apply Kd.R_drew)); exact HO_262001.out), (by (with_reducible repeat (first | refine blk_drewN ?_ _ | refine blk_drew ?_ | refine blk_alloc ?_ _)); exact BK261.out), (by (with_reducible repeat (first | refine blk_drewN ?_ _ | refine blk_drew ?_ | refine blk_alloc ?_ _)); exact BK279.out), GW279.out, GE279.out, NB261_279.out, NB279_261.out, (by repeat (first | (with_reducible first | exact HB.out | apply below_alloc | apply pw_below_drewN | apply below_drew1 | refine below_set ?_ GE261.out | refine below_set ?_ GE279.out) | exact HB.out))⟩)
                        ·
                         skip
                         rintro _ w48 ⟨hS_, h0_, h1_, h2_⟩
                         have n0_ : Aside0 (Kd.R (Kd.int .i64) 3 w48 w.heap.size (fun _ => True) (.slice Ao36 t257.length co36) t257) := ⟨h0_⟩
                         have n1_ : Aside0 (w48.heap[gb261]? = some (.cells #[.int .i64 t256, .slice Ao36 t257.length co36] 27 (0, 0))) := ⟨h1_⟩
                         have n2_ : Aside0 (Below w.heap.size w w48) := ⟨h2_⟩
                         clear HO_262001
                         clear BK261
                         clear HB
                         clear h0_ h1_ h2_
                         have HO_262001 := n0_
                         have BK261 := n1_
                         have HB := n2_
                         clear n0_ n1_ n2_
                         have hHeld : w48.cell? ⟨gb261, 0, none⟩ = some (.int .i64 t256) ∧ w48.cell? ⟨gb261, 1, none⟩ = some (.slice Ao36 t257.length co36) ∧ Kd.R (Kd.int .i64) 3 w48 w.heap.size (fun _ => True) (.slice Ao36 t257.length co36) t257 := hS_
                         refine norm_ (a' := ?_) ?_ ?_
                         rotate_left
                         ·
                          simp only [putAll, Act.put, List.setIfInBounds_toArray, List.set_cons_zero, List.set_cons_succ]
                          rfl
                         refine three_ (i := 0) (j := 3) (k := 10) (Ni := some 70) (Nj := some 73) (Nk := some 18) #[true, false, true, false, true, true, false, false, false, false, false, false, false] #[false, false, true, true, true, true, false, false, false, false, false, false, false] #[false, false, true, false, true, true, false, false, false, false, true, false, false] rfl rfl rfl rfl rfl rfl (three_of HT_.out (by kernel_rfl)) (by decide) (by decide) (by decide) (fun K hK => ?_) (fun K hK => ?_) (fun K hK => ?_)
                         ·
                          skip
                          refine Kd.R_lit_step (Kd.int .i64) _ 3 ?hg (N := 70) ?hd (xs := ([0] : List Int)) (inner := [.int .i64 0]) (ok := fun _ => True) (okp := fun _ => True) ?hr ?hp (fun _ hk => hk) trivial (Below.refl _ _) (Nat.le_refl _) (by simp) ?_; (case hd => rfl); (case hg => rfl); (case hr => first | (go_simp; done) | (go_simp; rfl)); (case hp => exact (Reps.one (show Kd.M (Kd.int .i64) _ _ _ 0 [.int .i64 0] from rfl) (Reps.none _ _)))
                          intro v263 w49 ho50 hb hg_ hnew_
                          have RD_ := Kd.R_below (by repeat (first | exact hHeld.2.2 | (with_reducible refine Kd.R_alloc ?_ _) | (with_reducible refine Kd.R_drewN ?_ _) | (with_reducible refine Kd.R_drew ?_))) hb
                          clear hg_ hnew_
                          (first | rw [← Ny262.out] at ho50 | (simp only [Int.reduceToNat] at ho50; rw [← Ny262.out] at ho50))
                          have n0_ := Aside0.mk (Kd.R_elder' (by (with_reducible repeat (first | apply Kd.R_alloc | apply Kd.R_drewN | apply Kd.R_drew)); exact HO_262001.out) (Kd.R_base ho50) hb)
                          have n1_ := Aside0.mk (Kd.R_lower (Kd.R_new' ho50 (Kd.R_lt (by (with_reducible repeat (first | apply Kd.R_alloc | apply Kd.R_drewN | apply Kd.R_drew)); exact HO_262001.out))) (below_size (by repeat (first | (with_reducible first | exact HB.out | apply below_alloc | apply pw_below_drewN | apply below_drew1 | refine below_set ?_ GE261.out) | exact HB.out))))
                          have n2_ := Aside0.mk (blk_below (g := gb261) (o := .cells #[.int .i64 t256, .slice Ao36 t257.length co36] 27 (0, 0)) (by (with_reducible repeat (first | refine blk_drewN ?_ _ | refine blk_drew ?_ | refine blk_alloc ?_ _)); exact BK261.out) hb)
                          have n3_ := Aside0.mk (below_step (by repeat (first | (with_reducible first | exact HB.out | apply below_alloc | apply pw_below_drewN | apply below_drew1 | refine below_set ?_ GE261.out) | exact HB.out)) hb)
                          clear HO_262001
                          clear BK261
                          clear HB
                          have HO_262001 := n0_
                          have HO264 := n1_
                          have BK261 := n2_
                          have HB := n3_
                          clear n0_ n1_ n2_ n3_
                          clear hb ho50
                          obtain ⟨Ao51, co51, eo51⟩ := Kd.R_slice HO264.out
                          (first | subst eo51 | (injection eo51 with f1_ f2_ f3_; have f4_ := f1_.symm; have f5_ := f3_.symm; clear f1_ f2_ f3_; subst f4_; subst f5_))
                          refine hK.out _ _ ⟨(blk_cell BK261.out 0).trans rfl, (blk_cell BK261.out 1).trans rfl, RD_⟩ (fun hHeld => ?_)
                          clear hK K
                          refine norm_ (a' := ?_) ?_ ?_
                          rotate_left
                          ·
                           show Act.put _ (some 70) _ = _
                           simp only [Act.put, List.setIfInBounds_toArray, List.set_cons_zero, List.set_cons_succ, i64_w, i32_w]
                           rfl
                          refine pure_ (i := 1) (N := some 71) (v := ?_) (a' := ?_) #[true, true, true, false, true, true, false, false, false, false, false, false, false] rfl rfl (any_of HT_.out (by kernel_rfl)) (fun _ _ _ h => h) (Or.inl ⟨by rfl, ?_⟩) ?_ ?_
                          rotate_left
                          ·
                           intro w'
                           go_simp
                           with_reducible rfl
                          rotate_left
                          ·
                           simp only [Act.put, List.setIfInBounds_toArray, List.set_cons_zero, List.set_cons_succ, i64_w, i32_w]
                           rfl
                          exact norm_ (by first | (simp only [putAll, Act.put, List.setIfInBounds_toArray, List.set_cons_zero, List.set_cons_succ]; done) | (simp only [putAll, Act.put, List.setIfInBounds_toArray, List.set_cons_zero, List.set_cons_succ]; rfl)) (hJ0_5 (.slice Ao51 y262.length co51) _ ⟨hHeld, (by (with_reducible repeat (first | apply Kd.R_alloc | apply Kd.R_drewN | apply Kd.R_drew)); exact Kd.R_mono HO264.out (fun _ hk => hk.2)), (by (with_reducible repeat (first | apply Kd.R_alloc | apply Kd.R_drewN | apply Kd.R_drew)); exact Kd.R_mono HO_262001.out (fun _ hk => hk.2)), (by (with_reducible repeat (first | refine blk_drewN ?_ _ | refine blk_drew ?_ | refine blk_alloc ?_ _)); exact BK261.out), (by repeat (first | (with_reducible first | exact HB.out | apply below_alloc | apply pw_below_drewN | apply below_drew1 | refine below_set ?_ GE261.out) | exact HB.out))⟩)
                         ·
                          skip
                          refine Kd.N_lit_step k27 _ 27 ?hg (N' := 73) ?hd (xs := ([(⟨t256, t257⟩ : S27)] : List (S27))) (inner := [.int .i64 t256, .slice Ao36 t257.length co36]) (ok := (fun k_ => k_ ≠ gb261)) (okp := (fun k_ => k_ ≠ gb261)) ?hr ?hp (fun _ hk => hk) ((show ∀ k_, w48.heap.size ≤ k_ → (fun k_ => k_ ≠ gb261) k_ from fun k_ hk => Kd.freshB (g := gb261) (o := .cells #[.int .i64 t256, .slice Ao36 t257.length co36] 27 (0, 0)) (by (with_reducible repeat (first | refine blk_drewN ?_ _ | refine blk_drew ?_ | refine blk_alloc ?_ _)); exact BK261.out) k_ hk) _ (Nat.le_refl _)) (Below.refl _ _) (Nat.le_refl _) (by simp) ?_; (case hd => rfl); (case hg => rfl); (case hr => first | (go_simp; done) | (go_simp; rfl)); (case hp => exact (Reps.c2 (show Kd.FK k27 _ _ (⟨t256, t257⟩ : S27) [.int .i64 t256, .slice Ao36 t257.length co36] from (k27_mkF _ _ (⟨t256, t257⟩ : S27) (Kd.R_reads' (Kd.R_mono (ok' := (fun k_ => k_ ≠ gb261)) (Kd.R_types (HO_262001.out) BK261.out (by decide)) (fun k_ hk => hk.2))).2.1 (Kd.R_F (Kd.R_mono (ok' := (fun k_ => k_ ≠ gb261)) (Kd.R_types (HO_262001.out) BK261.out (by decide)) (fun k_ hk => hk.2))))) (Reps.none _ _)))
                          intro v266 w49 ho50 hb hg_ hnew_
                          have RD_ := Kd.R_below (by repeat (first | exact hHeld.2.2 | (with_reducible refine Kd.R_alloc ?_ _) | (with_reducible refine Kd.R_drewN ?_ _) | (with_reducible refine Kd.R_drew ?_))) hb
                          clear hg_ hnew_
                          (first | rw [← Ny265.out] at ho50 | (simp only [Int.reduceToNat] at ho50; rw [← Ny265.out] at ho50))
                          have n0_ := Aside0.mk (Kd.N_lower ho50 (below_size (by repeat (first | (with_reducible first | exact HB.out | apply below_alloc | apply pw_below_drewN | apply below_drew1 | refine below_set ?_ GE261.out) | exact HB.out))))
                          have n1_ := Aside0.mk (blk_below (g := gb261) (o := .cells #[.int .i64 t256, .slice Ao36 t257.length co36] 27 (0, 0)) (by (with_reducible repeat (first | refine blk_drewN ?_ _ | refine blk_drew ?_ | refine blk_alloc ?_ _)); exact BK261.out) hb)
                          have n2_ := Aside0.mk (below_step (by repeat (first | (with_reducible first | exact HB.out | apply below_alloc | apply pw_below_drewN | apply below_drew1 | refine below_set ?_ GE261.out) | exact HB.out)) hb)
                          clear BK261
                          clear HB
                          clear HO_262001
                          have HO267 := n0_
                          have BK261 := n1_
                          have HB := n2_
                          clear n0_ n1_ n2_
                          clear hb ho50
                          refine hK.out _ _ ⟨(blk_cell BK261.out 0).trans rfl, (blk_cell BK261.out 1).trans rfl, RD_⟩ (fun hHeld => ?_)
                          clear hK K
                          refine norm_ (a' := ?_) ?_ ?_
                          rotate_left
                          ·
                           show Act.put _ (some 73) _ = _
                           simp only [Act.put, List.setIfInBounds_toArray, List.set_cons_zero, List.set_cons_succ, i64_w, i32_w]
                           rfl
                          exact norm_ (by first | (simp only [putAll, Act.put, List.setIfInBounds_toArray, List.set_cons_zero, List.set_cons_succ]; done) | (simp only [putAll, Act.put, List.setIfInBounds_toArray, List.set_cons_zero, List.set_cons_succ]; rfl)) (hJ3_5 (v266) _ ⟨hHeld, (by (with_reducible repeat (first | apply Kd.N_alloc | apply Kd.N_drewN | apply Kd.N_drew)); exact HO267.out), (by (with_reducible repeat (first | refine blk_drewN ?_ _ | refine blk_drew ?_ | refine blk_alloc ?_ _)); exact BK261.out), (by repeat (first | (with_reducible first | exact HB.out | apply below_alloc | apply pw_below_drewN | apply below_drew1 | refine below_set ?_ GE261.out) | exact HB.out))⟩)
                         ·
                          skip
                          refine box_step ?hg (N := 18) ?hd (cs := #[.int .i64 0, .slice none 0 0]) (t := 27) ?hr ?_; (case hd => rfl); (case hg => rfl); (case hr => first | (go_simp; done) | (go_simp; rfl))
                          intro gb279 hg w49 hbox hb
                          have RD_ := Kd.R_below (by repeat (first | exact hHeld.2.2 | (with_reducible refine Kd.R_alloc ?_ _) | (with_reducible refine Kd.R_drewN ?_ _) | (with_reducible refine Kd.R_drew ?_))) hb
                          have n0_ := Aside0.mk (Kd.R_below (by (with_reducible repeat (first | apply Kd.R_alloc | apply Kd.R_drewN | apply Kd.R_drew)); exact HO_262001.out) hb)
                          have n1_ := Aside0.mk (blk_below (g := gb261) (o := .cells #[.int .i64 t256, .slice Ao36 t257.length co36] 27 (0, 0)) (by (with_reducible repeat (first | refine blk_drewN ?_ _ | refine blk_drew ?_ | refine blk_alloc ?_ _)); exact BK261.out) hb)
                          have n2_ := Aside0.mk (below_step (by repeat (first | (with_reducible first | exact HB.out | apply below_alloc | apply pw_below_drewN | apply below_drew1 | refine below_set ?_ GE261.out) | exact HB.out)) hb)
                          have n3_ := Aside0.mk (hbox)
                          have n4_ := Aside0.mk ((by rw [hg]; exact (below_size (by repeat (first | (with_reducible first | exact HB.out | apply below_alloc | apply pw_below_drewN | apply below_drew1 | refine below_set ?_ GE261.out) | exact HB.out))) : w.heap.size ≤ gb279))
                          have n5_ := Aside0.mk ((by rw [hg]; exact (below_size (by repeat (first | (with_reducible first | exact HB.out | apply below_alloc | apply pw_below_drewN | apply below_drew1 | refine below_set ?_ GE261.out) | exact HB.out))) : w.heap.size ≤ gb279))
                          have n6_ := Aside0.mk ((by rw [hg]; exact Nat.ne_of_lt (blk_lt (g := gb261) (o := .cells #[.int .i64 t256, .slice Ao36 t257.length co36] 27 (0, 0)) (by (with_reducible repeat (first | refine blk_drewN ?_ _ | refine blk_drew ?_ | refine blk_alloc ?_ _)); exact BK261.out)) : gb261 ≠ gb279))
                          have n7_ := Aside0.mk ((by rw [hg]; exact Nat.ne_of_gt (blk_lt (g := gb261) (o := .cells #[.int .i64 t256, .slice Ao36 t257.length co36] 27 (0, 0)) (by (with_reducible repeat (first | refine blk_drewN ?_ _ | refine blk_drew ?_ | refine blk_alloc ?_ _)); exact BK261.out)) : gb279 ≠ gb261))
                          clear HO_262001
                          clear BK261
                          clear HB
                          have HO_262001 := n0_
                          have BK261 := n1_
                          have HB := n2_
                          have BK279 := n3_
                          have GW279 := n4_
                          have GE279 := n5_
                          have NB261_279 := n6_
                          have NB279_261 := n7_
                          clear n0_ n1_ n2_ n3_ n4_ n5_ n6_ n7_
                          clear hb hbox hg
                          refine hK.out _ _ ⟨(blk_cell BK261.out 0).trans rfl, (blk_cell BK261.out 1).trans rfl, RD_⟩ (fun hHeld => ?_)
                          clear hK K
                          refine norm_ (a' := ?_) ?_ ?_
                          rotate_left
                          ·
                           show Act.put _ (some 18) _ = _
                           simp only [Act.put, List.setIfInBounds_toArray, List.set_cons_zero, List.set_cons_succ, i64_w, i32_w]
                           rfl
                          exact norm_ (by first | (simp only [putAll, Act.put, List.setIfInBounds_toArray, List.set_cons_zero, List.set_cons_succ]; done) | (simp only [putAll, Act.put, List.setIfInBounds_toArray, List.set_cons_zero, List.set_cons_succ]; rfl)) (hJ5_10 (gb279) _ ⟨hHeld, (by (with_reducible repeat (first | apply Kd.R_alloc | apply Kd.R_drewN | apply Kd.R_drew)); exact HO_262001.out), (by (with_reducible repeat (first | refine blk_drewN ?_ _ | refine blk_drew ?_ | refine blk_alloc ?_ _)); exact BK261.out), (by (with_reducible repeat (first | refine blk_drewN ?_ _ | refine blk_drew ?_ | refine blk_alloc ?_ _)); exact BK279.out), GW279.out, GE279.out, NB261_279.out, NB279_261.out, (by repeat (first | (with_reducible first | exact HB.out | apply below_alloc | apply pw_below_drewN | apply below_drew1 | refine below_set ?_ GE261.out | refine below_set ?_ GE279.out) | exact HB.out))⟩)
                       ·
                        skip
                        rintro v266 w49 ⟨hS_, h0_, h1_, h2_⟩
                        have n0_ : Aside0 (Kd.N k27 27 w49 w.heap.size (fun k_ => k_ ≠ gb261) v266 y265) := ⟨h0_⟩
                        have n1_ : Aside0 (w49.heap[gb261]? = some (.cells #[.int .i64 t256, .slice Ao36 t257.length co36] 27 (0, 0))) := ⟨h1_⟩
                        have n2_ : Aside0 (Below w.heap.size w w49) := ⟨h2_⟩
                        clear HO_262001
                        clear BK261
                        clear HB
                        clear h0_ h1_ h2_
                        have HO267 := n0_
                        have BK261 := n1_
                        have HB := n2_
                        clear n0_ n1_ n2_
                        have hHeld : w49.cell? ⟨gb261, 0, none⟩ = some (.int .i64 t256) ∧ w49.cell? ⟨gb261, 1, none⟩ = some (.slice Ao36 t257.length co36) ∧ Kd.R (Kd.int .i64) 3 w49 w.heap.size (fun _ => True) (.slice Ao36 t257.length co36) t257 := hS_
                        refine norm_ (a' := ?_) ?_ ?_
                        rotate_left
                        ·
                         simp only [putAll, Act.put, List.setIfInBounds_toArray, List.set_cons_zero, List.set_cons_succ]
                         rfl
                        refine three_ (i := 0) (j := 5) (k := 10) (Ni := some 70) (Nj := some 75) (Nk := some 18) #[true, false, true, true, true, false, false, false, false, false, false, false, false] #[false, false, true, true, true, true, false, false, false, false, false, false, false] #[false, false, true, true, true, false, false, false, false, false, true, false, false] rfl rfl rfl rfl rfl rfl (three_of HT_.out (by kernel_rfl)) (by decide) (by decide) (by decide) (fun K hK => ?_) (fun K hK => ?_) (fun K hK => ?_)
                        ·
                         skip
                         refine Kd.R_lit_step (Kd.int .i64) _ 3 ?hg (N := 70) ?hd (xs := ([0] : List Int)) (inner := [.int .i64 0]) (ok := fun _ => True) (okp := fun _ => True) ?hr ?hp (fun _ hk => hk) trivial (Below.refl _ _) (Nat.le_refl _) (by simp) ?_; (case hd => rfl); (case hg => rfl); (case hr => first | (go_simp; done) | (go_simp; rfl)); (case hp => exact (Reps.one (show Kd.M (Kd.int .i64) _ _ _ 0 [.int .i64 0] from rfl) (Reps.none _ _)))
                         intro v263 w50 ho51 hb hg_ hnew_
                         have RD_ := Kd.R_below (by repeat (first | exact hHeld.2.2 | (with_reducible refine Kd.R_alloc ?_ _) | (with_reducible refine Kd.R_drewN ?_ _) | (with_reducible refine Kd.R_drew ?_))) hb
                         clear hg_ hnew_
                         (first | rw [← Ny262.out] at ho51 | (simp only [Int.reduceToNat] at ho51; rw [← Ny262.out] at ho51))
                         have n0_ := Aside0.mk (Kd.N_elder' (by (with_reducible repeat (first | apply Kd.N_alloc | apply Kd.N_drewN | apply Kd.N_drew)); exact HO267.out) (Kd.R_base ho51) hb)
                         have n1_ := Aside0.mk (Kd.R_lower ho51 (below_size (by repeat (first | (with_reducible first | exact HB.out | apply below_alloc | apply pw_below_drewN | apply below_drew1 | refine below_set ?_ GE261.out) | exact HB.out))))
                         have n2_ := Aside0.mk (blk_below (g := gb261) (o := .cells #[.int .i64 t256, .slice Ao36 t257.length co36] 27 (0, 0)) (by (with_reducible repeat (first | refine blk_drewN ?_ _ | refine blk_drew ?_ | refine blk_alloc ?_ _)); exact BK261.out) hb)
                         have n3_ := Aside0.mk (below_step (by repeat (first | (with_reducible first | exact HB.out | apply below_alloc | apply pw_below_drewN | apply below_drew1 | refine below_set ?_ GE261.out) | exact HB.out)) hb)
                         clear HO267
                         clear BK261
                         clear HB
                         have HO267 := n0_
                         have HO264 := n1_
                         have BK261 := n2_
                         have HB := n3_
                         clear n0_ n1_ n2_ n3_
                         clear hb ho51
                         obtain ⟨Ao52, co52, eo52⟩ := Kd.R_slice HO264.out
                         (first | subst eo52 | (injection eo52 with f1_ f2_ f3_; have f4_ := f1_.symm; have f5_ := f3_.symm; clear f1_ f2_ f3_; subst f4_; subst f5_))
                         refine hK.out _ _ ⟨(blk_cell BK261.out 0).trans rfl, (blk_cell BK261.out 1).trans rfl, RD_⟩ (fun hHeld => ?_)
                         clear hK K
                         refine norm_ (a' := ?_) ?_ ?_
                         rotate_left
                         ·
                          show Act.put _ (some 70) _ = _
                          simp only [Act.put, List.setIfInBounds_toArray, List.set_cons_zero, List.set_cons_succ, i64_w, i32_w]
                          rfl
                         refine pure_ (i := 1) (N := some 71) (v := ?_) (a' := ?_) #[true, true, true, true, true, false, false, false, false, false, false, false, false] rfl rfl (any_of HT_.out (by kernel_rfl)) (fun _ _ _ h => h) (Or.inl ⟨by rfl, ?_⟩) ?_ ?_
                         rotate_left
                         ·
                          intro w'
                          go_simp
                          with_reducible rfl
                         rotate_left
                         ·
                          simp only [Act.put, List.setIfInBounds_toArray, List.set_cons_zero, List.set_cons_succ, i64_w, i32_w]
                          rfl
                         exact norm_ (by first | (simp only [putAll, Act.put, List.setIfInBounds_toArray, List.set_cons_zero, List.set_cons_succ]; done) | (simp only [putAll, Act.put, List.setIfInBounds_toArray, List.set_cons_zero, List.set_cons_succ]; rfl)) (hJ0_3 (.slice Ao52 y262.length co52, v266) _ ⟨hHeld, (by (with_reducible repeat (first | apply Kd.R_alloc | apply Kd.R_drewN | apply Kd.R_drew)); exact HO264.out), (by (with_reducible repeat (first | apply Kd.N_alloc | apply Kd.N_drewN | apply Kd.N_drew)); exact Kd.N_mono HO267.out (fun _ hk => ⟨hk.2, hk.1⟩)), (by (with_reducible repeat (first | refine blk_drewN ?_ _ | refine blk_drew ?_ | refine blk_alloc ?_ _)); exact BK261.out), (by repeat (first | (with_reducible first | exact HB.out | apply below_alloc | apply pw_below_drewN | apply below_drew1 | refine below_set ?_ GE261.out) | exact HB.out))⟩)
                        ·
                         skip
                         refine goes_ Try.func21 (by kernel_rfl) rfl #[.int .i64 a3] (by rfl) rfl rfl (by (try simp only [List.map_toArray, List.map_cons, List.map_nil]); first | done | rfl | (simp only [List.length_drop, List.length_take]; rfl)) ?_
                         with_reducible refine (interlocutorlaw8_Ref.calls a3 t268 t269 t270 t271 t272 t273 _ A39.out).mono ?_
                         rintro e w50 ⟨rfl, hb⟩
                         have RD_ := Kd.R_below (by repeat (first | exact hHeld.2.2 | (with_reducible refine Kd.R_alloc ?_ _) | (with_reducible refine Kd.R_drewN ?_ _) | (with_reducible refine Kd.R_drew ?_))) hb
                         refine ⟨_, rfl, ?_⟩
                         have n0_ := Aside0.mk (Kd.N_below (by (with_reducible repeat (first | apply Kd.N_alloc | apply Kd.N_drewN | apply Kd.N_drew)); exact HO267.out) hb)
                         have n1_ := Aside0.mk (blk_below (g := gb261) (o := .cells #[.int .i64 t256, .slice Ao36 t257.length co36] 27 (0, 0)) (by (with_reducible repeat (first | refine blk_drewN ?_ _ | refine blk_drew ?_ | refine blk_alloc ?_ _)); exact BK261.out) hb)
                         have n2_ := Aside0.mk (below_step (by repeat (first | (with_reducible first | exact HB.out | apply below_alloc | apply pw_below_drewN | apply below_drew1 | refine below_set ?_ GE261.out) | exact HB.out)) hb)
                         clear HO267
                         clear BK261
                         clear HB
                         have HO267 := n0_
                         have BK261 := n1_
                         have HB := n2_
                         clear n0_ n1_ n2_
                         (try clear hb)
                         (try clear hb2)
                         (try clear hk)
                         (try clear hi)
                         refine hK.out _ _ ⟨(blk_cell BK261.out 0).trans rfl, (blk_cell BK261.out 1).trans rfl, RD_⟩ (fun hHeld => ?_)
                         clear hK K
                         refine norm_ (a' := ?_) ?_ ?_
                         rotate_left
                         ·
                          show Act.put _ (some 75) _ = _
                          simp only [Act.put, List.setIfInBounds_toArray, List.set_cons_zero, List.set_cons_succ, i64_w, i32_w]
                          rfl
                         exact norm_ (by first | (simp only [putAll, Act.put, List.setIfInBounds_toArray, List.set_cons_zero, List.set_cons_succ]; done) | (simp only [putAll, Act.put, List.setIfInBounds_toArray, List.set_cons_zero, List.set_cons_succ]; rfl)) (hJ3_5 (v266) _ ⟨hHeld, (by (with_reducible repeat (first | apply Kd.N_alloc | apply Kd.N_drewN | apply Kd.N_drew)); exact HO267.out), (by (with_reducible repeat (first | refine blk_drewN ?_ _ | refine blk_drew ?_ | refine blk_alloc ?_ _)); exact BK261.out), (by repeat (first | (with_reducible first | exact HB.out | apply below_alloc | apply pw_below_drewN | apply below_drew1 | refine below_set ?_ GE261.out) | exact HB.out))⟩)
                        ·
                         skip
                         refine box_step ?hg (N := 18) ?hd (cs := #[.int .i64 0, .slice none 0 0]) (t := 27) ?hr ?_; (case hd => rfl); (case hg => rfl); (case hr => first | (go_simp; done) | (go_simp; rfl))
                         intro gb279 hg w50 hbox hb
                         have RD_ := Kd.R_below (by repeat (first | exact hHeld.2.2 | (with_reducible refine Kd.R_alloc ?_ _) | (with_reducible refine Kd.R_drewN ?_ _) | (with_reducible refine Kd.R_drew ?_))) hb
                         have n0_ := Aside0.mk (Kd.N_below (Kd.N_elderB (by (with_reducible repeat (first | apply Kd.N_alloc | apply Kd.N_drewN | apply Kd.N_drew)); exact HO267.out) gb279 (Nat.le_of_eq hg.symm)) hb)
                         have n1_ := Aside0.mk (blk_below (g := gb261) (o := .cells #[.int .i64 t256, .slice Ao36 t257.length co36] 27 (0, 0)) (by (with_reducible repeat (first | refine blk_drewN ?_ _ | refine blk_drew ?_ | refine blk_alloc ?_ _)); exact BK261.out) hb)
                         have n2_ := Aside0.mk (below_step (by repeat (first | (with_reducible first | exact HB.out | apply below_alloc | apply pw_below_drewN | apply below_drew1 | refine below_set ?_ GE261.out) | exact HB.out)) hb)
                         have n3_ := Aside0.mk (hbox)
                         have n4_ := Aside0.mk ((by rw [hg]; exact (below_size (by repeat (first | (with_reducible first | exact HB.out | apply below_alloc | apply pw_below_drewN | apply below_drew1 | refine below_set ?_ GE261.out) | exact HB.out))) : w.heap.size ≤ gb279))
                         have n5_ := Aside0.mk ((by rw [hg]; exact (below_size (by repeat (first | (with_reducible first | exact HB.out | apply below_alloc | apply pw_below_drewN | apply below_drew1 | refine below_set ?_ GE261.out) | exact HB.out))) : w.heap.size ≤ gb279))
                         have n6_ := Aside0.mk ((by rw [hg]; exact Nat.ne_of_lt (blk_lt (g := gb261) (o := .cells #[.int .i64 t256, .slice Ao36 t257.length co36] 27 (0, 0)) (by (with_reducible repeat (first | refine blk_drewN ?_ _ | refine blk_drew ?_ | refine blk_alloc ?_ _)); exact BK261.out)) : gb261 ≠ gb279))
                         have n7_ := Aside0.mk ((by rw [hg]; exact Nat.ne_of_gt (blk_lt (g := gb261) (o := .cells #[.int .i64 t256, .slice Ao36 t257.length co36] 27 (0, 0)) (by (with_reducible repeat (first | refine blk_drewN ?_ _ | refine blk_drew ?_ | refine blk_alloc ?_ _)); exact BK261.out)) : gb279 ≠ gb261))
                         clear HO267
                         clear BK261
                         clear HB
                         have HO267 := n0_
                         have BK261 := n1_
                         have HB := n2_
                         have BK279 := n3_
                         have GW279 := n4_
                         have GE279 := n5_
                         have NB261_279 := n6_
                         have NB279_261 := n7_
                         clear n0_ n1_ n2_ n3_ n4_ n5_ n6_ n7_
                         clear hb hbox hg
                         refine hK.out _ _ ⟨(blk_cell BK261.out 0).trans rfl, (blk_cell BK261.out 1).trans rfl, RD_⟩ (fun hHeld => ?_)
                         clear hK K
                         refine norm_ (a' := ?_) ?_ ?_
                         rotate_left
                         ·
                          show Act.put _ (some 18) _ = _
                          simp only [Act.put, List.setIfInBounds_toArray, List.set_cons_zero, List.set_cons_succ, i64_w, i32_w]
                          rfl
                         exact norm_ (by first | (simp only [putAll, Act.put, List.setIfInBounds_toArray, List.set_cons_zero, List.set_cons_succ]; done) | (simp only [putAll, Act.put, List.setIfInBounds_toArray, List.set_cons_zero, List.set_cons_succ]; rfl)) (hJ3_10 (v266, gb279) _ ⟨hHeld, (by (with_reducible repeat (first | apply Kd.N_alloc | apply Kd.N_drewN | apply Kd.N_drew)); exact HO267.out), (by (with_reducible repeat (first | refine blk_drewN ?_ _ | refine blk_drew ?_ | refine blk_alloc ?_ _)); exact BK261.out), (by (with_reducible repeat (first | refine blk_drewN ?_ _ | refine blk_drew ?_ | refine blk_alloc ?_ _)); exact BK279.out), GW279.out, GE279.out, NB261_279.out, NB279_261.out, (by repeat (first | (with_reducible first | exact HB.out | apply below_alloc | apply pw_below_drewN | apply below_drew1 | refine below_set ?_ GE261.out | refine below_set ?_ GE279.out) | exact HB.out))⟩)
                      ·
                       skip
                       rintro v263 w50 ⟨hS_, h0_, h1_, h2_, h3_⟩
                       have n0_ : Aside0 (Kd.R (Kd.int .i64) 3 w50 w.heap.size (fun k_ => some k_ ≠ (.slice Ao36 t257.length co36 : Value).ownBlock) v263 y262) := ⟨h0_⟩
                       have n1_ : Aside0 (Kd.R (Kd.int .i64) 3 w50 w.heap.size (fun k_ => some k_ ≠ (v263 : Value).ownBlock) (.slice Ao36 t257.length co36) t257) := ⟨h1_⟩
                       have n2_ : Aside0 (w50.heap[gb261]? = some (.cells #[.int .i64 t256, .slice Ao36 t257.length co36] 27 (0, 0))) := ⟨h2_⟩
                       have n3_ : Aside0 (Below w.heap.size w w50) := ⟨h3_⟩
                       clear HO_262001
                       clear BK261
                       clear HB
                       clear h0_ h1_ h2_ h3_
                       have HO264 := n0_
                       have HO_262001 := n1_
                       have BK261 := n2_
                       have HB := n3_
                       clear n0_ n1_ n2_ n3_
                       have hHeld : w50.cell? ⟨gb261, 0, none⟩ = some (.int .i64 t256) ∧ w50.cell? ⟨gb261, 1, none⟩ = some (.slice Ao36 t257.length co36) ∧ Kd.R (Kd.int .i64) 3 w50 w.heap.size (fun _ => True) (.slice Ao36 t257.length co36) t257 := hS_
                       obtain ⟨Ao51, co51, eo51⟩ := Kd.R_slice HO264.out
                       (first | subst eo51 | (injection eo51 with f1_ f2_ f3_; have f4_ := f1_.symm; have f5_ := f3_.symm; clear f1_ f2_ f3_; subst f4_; subst f5_))
                       refine norm_ (a' := ?_) ?_ ?_
                       rotate_left
                       ·
                        simp only [putAll, Act.put, List.setIfInBounds_toArray, List.set_cons_zero, List.set_cons_succ]
                        rfl
                       refine three_ (i := 3) (j := 5) (k := 10) (Ni := some 73) (Nj := some 75) (Nk := some 18) #[true, true, true, true, true, false, false, false, false, false, false, false, false] #[true, true, true, false, true, true, false, false, false, false, false, false, false] #[true, true, true, false, true, false, false, false, false, false, true, false, false] rfl rfl rfl rfl rfl rfl (three_of HT_.out (by kernel_rfl)) (by decide) (by decide) (by decide) (fun K hK => ?_) (fun K hK => ?_) (fun K hK => ?_)
                       ·
                        skip
                        refine Kd.N_lit_step k27 _ 27 ?hg (N' := 73) ?hd (xs := ([(⟨t256, t257⟩ : S27)] : List (S27))) (inner := [.int .i64 t256, .slice Ao36 t257.length co36]) (ok := (fun k_ => some k_ ≠ (.slice Ao51 y262.length co51 : Value).ownBlock ∧ k_ ≠ gb261)) (okp := (fun k_ => some k_ ≠ (.slice Ao51 y262.length co51 : Value).ownBlock ∧ k_ ≠ gb261)) ?hr ?hp (fun _ hk => hk) ((show ∀ k_, w50.heap.size ≤ k_ → (fun k_ => some k_ ≠ (.slice Ao51 y262.length co51 : Value).ownBlock ∧ k_ ≠ gb261) k_ from fun k_ hk => ⟨Kd.fresh' (Kd.R_lt (by (with_reducible repeat (first | apply Kd.R_alloc | apply Kd.R_drewN | apply Kd.R_drew)); exact HO264.out)) k_ hk, Kd.freshB (g := gb261) (o := .cells #[.int .i64 t256, .slice Ao36 t257.length co36] 27 (0, 0)) (by (with_reducible repeat (first | refine blk_drewN ?_ _ | refine blk_drew ?_ | refine blk_alloc ?_ _)); exact BK261.out) k_ hk⟩) _ (Nat.le_refl _)) (Below.refl _ _) (Nat.le_refl _) (by simp) ?_; (case hd => rfl); (case hg => rfl); (case hr => first | (go_simp; done) | (go_simp; rfl)); (case hp => exact (Reps.c2 (show Kd.FK k27 _ _ (⟨t256, t257⟩ : S27) [.int .i64 t256, .slice Ao36 t257.length co36] from (k27_mkF _ _ (⟨t256, t257⟩ : S27) (Kd.R_reads' (Kd.R_mono (ok' := (fun k_ => some k_ ≠ (.slice Ao51 y262.length co51 : Value).ownBlock ∧ k_ ≠ gb261)) (Kd.R_types (HO_262001.out) BK261.out (by decide)) (fun k_ hk => ⟨hk.1, hk.2⟩))).2.1 (Kd.R_F (Kd.R_mono (ok' := (fun k_ => some k_ ≠ (.slice Ao51 y262.length co51 : Value).ownBlock ∧ k_ ≠ gb261)) (Kd.R_types (HO_262001.out) BK261.out (by decide)) (fun k_ hk => ⟨hk.1, hk.2⟩))))) (Reps.none _ _)))
                        intro v266 w52 ho53 hb hg_ hnew_
                        have RD_ := Kd.R_below (by repeat (first | exact hHeld.2.2 | (with_reducible refine Kd.R_alloc ?_ _) | (with_reducible refine Kd.R_drewN ?_ _) | (with_reducible refine Kd.R_drew ?_))) hb
                        clear hg_ hnew_
                        (first | rw [← Ny265.out] at ho53 | (simp only [Int.reduceToNat] at ho53; rw [← Ny265.out] at ho53))
                        have n0_ := Aside0.mk (Kd.R_below (by (with_reducible repeat (first | apply Kd.R_alloc | apply Kd.R_drewN | apply Kd.R_drew)); exact HO264.out) hb)
                        have n1_ := Aside0.mk (Kd.N_lower ho53 (below_size (by repeat (first | (with_reducible first | exact HB.out | apply below_alloc | apply pw_below_drewN | apply below_drew1 | refine below_set ?_ GE261.out) | exact HB.out))))
                        have n2_ := Aside0.mk (blk_below (g := gb261) (o := .cells #[.int .i64 t256, .slice Ao36 t257.length co36] 27 (0, 0)) (by (with_reducible repeat (first | refine blk_drewN ?_ _ | refine blk_drew ?_ | refine blk_alloc ?_ _)); exact BK261.out) hb)
                        have n3_ := Aside0.mk (below_step (by repeat (first | (with_reducible first | exact HB.out | apply below_alloc | apply pw_below_drewN | apply below_drew1 | refine below_set ?_ GE261.out) | exact HB.out)) hb)
                        clear HO264
                        clear BK261
                        clear HB
                        clear HO_262001
                        have HO264 := n0_
                        have HO267 := n1_
                        have BK261 := n2_
                        have HB := n3_
                        clear n0_ n1_ n2_ n3_
                        clear hb ho53
                        refine hK.out _ _ ⟨(blk_cell BK261.out 0).trans rfl, (blk_cell BK261.out 1).trans rfl, RD_⟩ (fun hHeld => ?_)
                        clear hK K
                        refine norm_ (a' := ?_) ?_ ?_
                        rotate_left
                        ·
                         show Act.put _ (some 73) _ = _
                         simp only [Act.put, List.setIfInBounds_toArray, List.set_cons_zero, List.set_cons_succ, i64_w, i32_w]
                         rfl
                        exact norm_ (by first | (simp only [putAll, Act.put, List.setIfInBounds_toArray, List.set_cons_zero, List.set_cons_succ]; done) | (simp only [putAll, Act.put, List.setIfInBounds_toArray, List.set_cons_zero, List.set_cons_succ]; rfl)) (hJ0_3 (.slice Ao51 y262.length co51, v266) _ ⟨hHeld, (by (with_reducible repeat (first | apply Kd.R_alloc | apply Kd.R_drewN | apply Kd.R_drew)); exact Kd.R_mono HO264.out (fun _ hk => trivial)), (by (with_reducible repeat (first | apply Kd.N_alloc | apply Kd.N_drewN | apply Kd.N_drew)); exact HO267.out), (by (with_reducible repeat (first | refine blk_drewN ?_ _ | refine blk_drew ?_ | refine blk_alloc ?_ _)); exact BK261.out), (by repeat (first | (with_reducible first | exact HB.out | apply below_alloc | apply pw_below_drewN | apply below_drew1 | refine below_set ?_ GE261.out) | exact HB.out))⟩)
                       ·
                        skip
                        refine goes_ Try.func21 (by kernel_rfl) rfl #[.int .i64 a3] (by rfl) rfl rfl (by (try simp only [List.map_toArray, List.map_cons, List.map_nil]); first | done | rfl | (simp only [List.length_drop, List.length_take]; rfl)) ?_
                        with_reducible refine (interlocutorlaw8_Ref.calls a3 t268 t269 t270 t271 t272 t273 _ A39.out).mono ?_
                        rintro e w52 ⟨rfl, hb⟩
                        have RD_ := Kd.R_below (by repeat (first | exact hHeld.2.2 | (with_reducible refine Kd.R_alloc ?_ _) | (with_reducible refine Kd.R_drewN ?_ _) | (with_reducible refine Kd.R_drew ?_))) hb
                        refine ⟨_, rfl, ?_⟩
                        have n0_ := Aside0.mk (Kd.R_below (by (with_reducible repeat (first | apply Kd.R_alloc | apply Kd.R_drewN | apply Kd.R_drew)); exact HO_262001.out) hb)
                        have n1_ := Aside0.mk (Kd.R_below (by (with_reducible repeat (first | apply Kd.R_alloc | apply Kd.R_drewN | apply Kd.R_drew)); exact HO264.out) hb)
                        have n2_ := Aside0.mk (blk_below (g := gb261) (o := .cells #[.int .i64 t256, .slice Ao36 t257.length co36] 27 (0, 0)) (by (with_reducible repeat (first | refine blk_drewN ?_ _ | refine blk_drew ?_ | refine blk_alloc ?_ _)); exact BK261.out) hb)
                        have n3_ := Aside0.mk (below_step (by repeat (first | (with_reducible first | exact HB.out | apply below_alloc | apply pw_below_drewN | apply below_drew1 | refine below_set ?_ GE261.out) | exact HB.out)) hb)
                        clear HO_262001
                        clear HO264
                        clear BK261
                        clear HB
                        have HO_262001 := n0_
                        have HO264 := n1_
                        have BK261 := n2_
                        have HB := n3_
                        clear n0_ n1_ n2_ n3_
                        (try clear hb)
                        (try clear hb2)
                        (try clear hk)
                        (try clear hi)
                        refine hK.out _ _ ⟨(blk_cell BK261.out 0).trans rfl, (blk_cell BK261.out 1).trans rfl, RD_⟩ (fun hHeld => ?_)
                        clear hK K
                        refine norm_ (a' := ?_) ?_ ?_
                        rotate_left
                        ·
                         show Act.put _ (some 75) _ = _
                         simp only [Act.put, List.setIfInBounds_toArray, List.set_cons_zero, List.set_cons_succ, i64_w, i32_w]
                         rfl
                        exact norm_ (by first | (simp only [putAll, Act.put, List.setIfInBounds_toArray, List.set_cons_zero, List.set_cons_succ]; done) | (simp only [putAll, Act.put, List.setIfInBounds_toArray, List.set_cons_zero, List.set_cons_succ]; rfl)) (hJ0_5 (.slice Ao51 y262.length co51) _ ⟨hHeld, (by (with_reducible repeat (first | apply Kd.R_alloc | apply Kd.R_drewN | apply Kd.R_drew)); exact HO264.out), (by (with_reducible repeat (first | apply Kd.R_alloc | apply Kd.R_drewN | apply Kd.R_drew)); exact HO_262001.out), (by (with_reducible repeat (first | refine blk_drewN ?_ _ | refine blk_drew ?_ | refine blk_alloc ?_ _)); exact BK261.out), (by repeat (first | (with_reducible first | exact HB.out | apply below_alloc | apply pw_below_drewN | apply below_drew1 | refine below_set ?_ GE261.out) | exact HB.out))⟩)
                       ·
                        skip
                        refine box_step ?hg (N := 18) ?hd (cs := #[.int .i64 0, .slice none 0 0]) (t := 27) ?hr ?_; (case hd => rfl); (case hg => rfl); (case hr => first | (go_simp; done) | (go_simp; rfl))
                        intro gb279 hg w52 hbox hb
                        have RD_ := Kd.R_below (by repeat (first | exact hHeld.2.2 | (with_reducible refine Kd.R_alloc ?_ _) | (with_reducible refine Kd.R_drewN ?_ _) | (with_reducible refine Kd.R_drew ?_))) hb
                        have n0_ := Aside0.mk (Kd.R_below (by (with_reducible repeat (first | apply Kd.R_alloc | apply Kd.R_drewN | apply Kd.R_drew)); exact HO_262001.out) hb)
                        have n1_ := Aside0.mk (Kd.R_below (by (with_reducible repeat (first | apply Kd.R_alloc | apply Kd.R_drewN | apply Kd.R_drew)); exact HO264.out) hb)
                        have n2_ := Aside0.mk (blk_below (g := gb261) (o := .cells #[.int .i64 t256, .slice Ao36 t257.length co36] 27 (0, 0)) (by (with_reducible repeat (first | refine blk_drewN ?_ _ | refine blk_drew ?_ | refine blk_alloc ?_ _)); exact BK261.out) hb)
                        have n3_ := Aside0.mk (below_step (by repeat (first | (with_reducible first | exact HB.out | apply below_alloc | apply pw_below_drewN | apply below_drew1 | refine below_set ?_ GE261.out) | exact HB.out)) hb)
                        have n4_ := Aside0.mk (hbox)
                        have n5_ := Aside0.mk ((by rw [hg]; exact (below_size (by repeat (first | (with_reducible first | exact HB.out | apply below_alloc | apply pw_below_drewN | apply below_drew1 | refine below_set ?_ GE261.out) | exact HB.out))) : w.heap.size ≤ gb279))
                        have n6_ := Aside0.mk ((by rw [hg]; exact (below_size (by repeat (first | (with_reducible first | exact HB.out | apply below_alloc | apply pw_below_drewN | apply below_drew1 | refine below_set ?_ GE261.out) | exact HB.out))) : w.heap.size ≤ gb279))
                        have n7_ := Aside0.mk ((by rw [hg]; exact Nat.ne_of_lt (blk_lt (g := gb261) (o := .cells #[.int .i64 t256, .slice Ao36 t257.length co36] 27 (0, 0)) (by (with_reducible repeat (first | refine blk_drewN ?_ _ | refine blk_drew ?_ | refine blk_alloc ?_ _)); exact BK261.out)) : gb261 ≠ gb279))
                        have n8_ := Aside0.mk ((by rw [hg]; exact Nat.ne_of_gt (blk_lt (g := gb261) (o := .cells #[.int .i64 t256, .slice Ao36 t257.length co36] 27 (0, 0)) (by (with_reducible repeat (first | refine blk_drewN ?_ _ | refine blk_drew ?_ | refine blk_alloc ?_ _)); exact BK261.out)) : gb279 ≠ gb261))
                        clear HO_262001
                        clear HO264
                        clear BK261
                        clear HB
                        have HO_262001 := n0_
                        have HO264 := n1_
                        have BK261 := n2_
                        have HB := n3_
                        have BK279 := n4_
                        have GW279 := n5_
                        have GE279 := n6_
                        have NB261_279 := n7_
                        have NB279_261 := n8_
                        clear n0_ n1_ n2_ n3_ n4_ n5_ n6_ n7_ n8_
                        clear hb hbox hg
                        refine hK.out _ _ ⟨(blk_cell BK261.out 0).trans rfl, (blk_cell BK261.out 1).trans rfl, RD_⟩ (fun hHeld => ?_)
                        clear hK K
                        refine norm_ (a' := ?_) ?_ ?_
                        rotate_left
                        ·
                         show Act.put _ (some 18) _ = _
                         simp only [Act.put, List.setIfInBounds_toArray, List.set_cons_zero, List.set_cons_succ, i64_w, i32_w]
                         rfl
                        exact norm_ (by first | (simp only [putAll, Act.put, List.setIfInBounds_toArray, List.set_cons_zero, List.set_cons_succ]; done) | (simp only [putAll, Act.put, List.setIfInBounds_toArray, List.set_cons_zero, List.set_cons_succ]; rfl)) (hJ0_10 (.slice Ao51 y262.length co51, gb279) _ ⟨hHeld, (by (with_reducible repeat (first | apply Kd.R_alloc | apply Kd.R_drewN | apply Kd.R_drew)); exact HO264.out), (by (with_reducible repeat (first | apply Kd.R_alloc | apply Kd.R_drewN | apply Kd.R_drew)); exact HO_262001.out), (by (with_reducible repeat (first | refine blk_drewN ?_ _ | refine blk_drew ?_ | refine blk_alloc ?_ _)); exact BK261.out), (by (with_reducible repeat (first | refine blk_drewN ?_ _ | refine blk_drew ?_ | refine blk_alloc ?_ _)); exact BK279.out), GW279.out, GE279.out, NB261_279.out, NB279_261.out, (by repeat (first | (with_reducible first | exact HB.out | apply below_alloc | apply pw_below_drewN | apply below_drew1 | refine below_set ?_ GE261.out | refine below_set ?_ GE279.out) | exact HB.out))⟩)
                     ·
                      skip
                      rintro gb279 w49 ⟨hS_, h0_, h1_, h2_, h3_, h4_, h5_, h6_, h7_⟩
                      have n0_ : Aside0 (Kd.R (Kd.int .i64) 3 w49 w.heap.size (fun _ => True) (.slice Ao36 t257.length co36) t257) := ⟨h0_⟩
                      have n1_ : Aside0 (w49.heap[gb261]? = some (.cells #[.int .i64 t256, .slice Ao36 t257.length co36] 27 (0, 0))) := ⟨h1_⟩
                      have n2_ : Aside0 (w49.heap[gb279]? = some (.cells #[.int .i64 0, .slice none 0 0] 27 (0, 0))) := ⟨h2_⟩
                      have n3_ : Aside0 (w.heap.size ≤ gb279) := ⟨h3_⟩
                      have n4_ : Aside0 (w.heap.size ≤ gb279) := ⟨h4_⟩
                      have n5_ : Aside0 (gb261 ≠ gb279) := ⟨h5_⟩
                      have n6_ : Aside0 (gb279 ≠ gb261) := ⟨h6_⟩
                      have n7_ : Aside0 (Below w.heap.size w w49) := ⟨h7_⟩
                      clear HO_262001
                      clear BK261
                      clear HB
                      clear h0_ h1_ h2_ h3_ h4_ h5_ h6_ h7_
                      have HO_262001 := n0_
                      have BK261 := n1_
                      have BK279 := n2_
                      have GW279 := n3_
                      have GE279 := n4_
                      have NB261_279 := n5_
                      have NB279_261 := n6_
                      have HB := n7_
                      clear n0_ n1_ n2_ n3_ n4_ n5_ n6_ n7_
                      have hHeld : w49.cell? ⟨gb261, 0, none⟩ = some (.int .i64 t256) ∧ w49.cell? ⟨gb261, 1, none⟩ = some (.slice Ao36 t257.length co36) ∧ Kd.R (Kd.int .i64) 3 w49 w.heap.size (fun _ => True) (.slice Ao36 t257.length co36) t257 := hS_
                      refine norm_ (a' := ?_) ?_ ?_
                      rotate_left
                      ·
                       simp only [putAll, Act.put, List.setIfInBounds_toArray, List.set_cons_zero, List.set_cons_succ]
                       rfl
                      refine two_ (i := 0) (j := 3) (Ni := some 70) (Nj := some 73) #[true, false, true, false, true, true, false, false, false, false, true, false, false] #[false, false, true, true, true, true, false, false, false, false, true, false, false] rfl rfl rfl rfl (two_of HT_.out (by kernel_rfl)) (by decide) (by decide) (fun K hK => ?_) (fun K hK => ?_)
                      ·
                       skip
                       refine Kd.R_lit_step (Kd.int .i64) _ 3 ?hg (N := 70) ?hd (xs := ([0] : List Int)) (inner := [.int .i64 0]) (ok := fun _ => True) (okp := fun _ => True) ?hr ?hp (fun _ hk => hk) trivial (Below.refl _ _) (Nat.le_refl _) (by simp) ?_; (case hd => rfl); (case hg => rfl); (case hr => first | (go_simp; done) | (go_simp; rfl)); (case hp => exact (Reps.one (show Kd.M (Kd.int .i64) _ _ _ 0 [.int .i64 0] from rfl) (Reps.none _ _)))
                       intro v263 w50 ho51 hb hg_ hnew_
                       have RD_ := Kd.R_below (by repeat (first | exact hHeld.2.2 | (with_reducible refine Kd.R_alloc ?_ _) | (with_reducible refine Kd.R_drewN ?_ _) | (with_reducible refine Kd.R_drew ?_))) hb
                       clear hg_ hnew_
                       (first | rw [← Ny262.out] at ho51 | (simp only [Int.reduceToNat] at ho51; rw [← Ny262.out] at ho51))
                       have n0_ := Aside0.mk (Kd.R_elder' (by (with_reducible repeat (first | apply Kd.R_alloc | apply Kd.R_drewN | apply Kd.R_drew)); exact HO_262001.out) (Kd.R_base ho51) hb)
                       have n1_ := Aside0.mk (Kd.R_lower (Kd.R_new' ho51 (Kd.R_lt (by (with_reducible repeat (first | apply Kd.R_alloc | apply Kd.R_drewN | apply Kd.R_drew)); exact HO_262001.out))) (below_size (by repeat (first | (with_reducible first | exact HB.out | apply below_alloc | apply pw_below_drewN | apply below_drew1 | refine below_set ?_ GE261.out | refine below_set ?_ GE279.out) | exact HB.out))))
                       have n2_ := Aside0.mk (blk_below (g := gb261) (o := .cells #[.int .i64 t256, .slice Ao36 t257.length co36] 27 (0, 0)) (by (with_reducible repeat (first | refine blk_drewN ?_ _ | refine blk_drew ?_ | refine blk_alloc ?_ _)); exact BK261.out) hb)
                       have n3_ := Aside0.mk (blk_below (g := gb279) (o := .cells #[.int .i64 0, .slice none 0 0] 27 (0, 0)) (by (with_reducible repeat (first | refine blk_drewN ?_ _ | refine blk_drew ?_ | refine blk_alloc ?_ _)); exact BK279.out) hb)
                       have n4_ := Aside0.mk (below_step (by repeat (first | (with_reducible first | exact HB.out | apply below_alloc | apply pw_below_drewN | apply below_drew1 | refine below_set ?_ GE261.out | refine below_set ?_ GE279.out) | exact HB.out)) hb)
                       clear HO_262001
                       clear BK261
                       clear BK279
                       clear HB
                       have HO_262001 := n0_
                       have HO264 := n1_
                       have BK261 := n2_
                       have BK279 := n3_
                       have HB := n4_
                       clear n0_ n1_ n2_ n3_ n4_
                       clear hb ho51
                       obtain ⟨Ao52, co52, eo52⟩ := Kd.R_slice HO264.out
                       (first | subst eo52 | (injection eo52 with f1_ f2_ f3_; have f4_ := f1_.symm; have f5_ := f3_.symm; clear f1_ f2_ f3_; subst f4_; subst f5_))
                       refine hK.out _ _ ⟨(blk_cell BK261.out 0).trans rfl, (blk_cell BK261.out 1).trans rfl, RD_⟩ (fun hHeld => ?_)
                       clear hK K
                       refine norm_ (a' := ?_) ?_ ?_
                       rotate_left
                       ·
                        show Act.put _ (some 70) _ = _
                        simp only [Act.put, List.setIfInBounds_toArray, List.set_cons_zero, List.set_cons_succ, i64_w, i32_w]
                        rfl
                       refine pure_ (i := 1) (N := some 71) (v := ?_) (a' := ?_) #[true, true, true, false, true, true, false, false, false, false, true, false, false] rfl rfl (any_of HT_.out (by kernel_rfl)) (fun _ _ _ h => h) (Or.inl ⟨by rfl, ?_⟩) ?_ ?_
                       rotate_left
                       ·
                        intro w'
                        go_simp
                        with_reducible rfl
                       rotate_left
                       ·
                        simp only [Act.put, List.setIfInBounds_toArray, List.set_cons_zero, List.set_cons_succ, i64_w, i32_w]
                        rfl
                       exact norm_ (by first | (simp only [putAll, Act.put, List.setIfInBounds_toArray, List.set_cons_zero, List.set_cons_succ]; done) | (simp only [putAll, Act.put, List.setIfInBounds_toArray, List.set_cons_zero, List.set_cons_succ]; rfl)) (hJ0_5_10 (.slice Ao52 y262.length co52, gb279) _ ⟨hHeld, (by (with_reducible repeat (first | apply Kd.R_alloc | apply Kd.R_drewN | apply Kd.R_drew)); exact Kd.R_mono HO264.out (fun _ hk => hk.2)), (by (with_reducible repeat (first | apply Kd.R_alloc | apply Kd.R_drewN | apply Kd.R_drew)); exact Kd.R_mono HO_262001.out (fun _ hk => hk.2)), (by (with_reducible repeat (first | refine blk_drewN ?_ _ | refine blk_drew ?_ | refine blk_alloc ?_ _)); exact BK261.out), (by (with_reducible repeat (first | refine blk_drewN ?_ _ | refine blk_drew ?_ | refine blk_alloc ?_ _)); exact BK279.out), GW279.out, GE279.out, NB261_279.out, NB279_261.out, (by repeat (first | (with_reducible first | exact HB.out | apply below_alloc | apply pw_below_drewN | apply below_drew1 | refine below_set ?_ GE261.out | refine below_set ?_ GE279.out) | exact HB.out))⟩)
                      ·
                       skip
                       refine Kd.N_lit_step k27 _ 27 ?hg (N' := 73) ?hd (xs := ([(⟨t256, t257⟩ : S27)] : List (S27))) (inner := [.int .i64 t256, .slice Ao36 t257.length co36]) (ok := (fun k_ => k_ ≠ gb261 ∧ k_ ≠ gb279)) (okp := (fun k_ => k_ ≠ gb261 ∧ k_ ≠ gb279)) ?hr ?hp (fun _ hk => hk) ((show ∀ k_, w49.heap.size ≤ k_ → (fun k_ => k_ ≠ gb261 ∧ k_ ≠ gb279) k_ from fun k_ hk => ⟨Kd.freshB (g := gb261) (o := .cells #[.int .i64 t256, .slice Ao36 t257.length co36] 27 (0, 0)) (by (with_reducible repeat (first | refine blk_drewN ?_ _ | refine blk_drew ?_ | refine blk_alloc ?_ _)); exact BK261.out) k_ hk, Kd.freshB (g := gb279) (o := .cells #[.int .i64 0, .slice none 0 0] 27 (0, 0)) (by (with_reducible repeat (first | refine blk_drewN ?_ _ | refine blk_drew ?_ | refine blk_alloc ?_ _)); exact BK279.out) k_ hk⟩) _ (Nat.le_refl _)) (Below.refl _ _) (Nat.le_refl _) (by simp) ?_; (case hd => rfl); (case hg => rfl); (case hr => first | (go_simp; done) | (go_simp; rfl)); (case hp => exact (Reps.c2 (show Kd.FK k27 _ _ (⟨t256, t257⟩ : S27) [.int .i64 t256, .slice Ao36 t257.length co36] from (k27_mkF _ _ (⟨t256, t257⟩ : S27) (Kd.R_reads' (Kd.R_mono (ok' := (fun k_ => k_ ≠ gb261 ∧ k_ ≠ gb279)) (Kd.R_types (Kd.R_types (HO_262001.out) BK261.out (by decide)) BK279.out (by decide)) (fun k_ hk => ⟨hk.1.2, hk.2⟩))).2.1 (Kd.R_F (Kd.R_mono (ok' := (fun k_ => k_ ≠ gb261 ∧ k_ ≠ gb279)) (Kd.R_types (Kd.R_types (HO_262001.out) BK261.out (by decide)) BK279.out (by decide)) (fun k_ hk => ⟨hk.1.2, hk.2⟩))))) (Reps.none _ _)))
                       intro v266 w50 ho51 hb hg_ hnew_
                       have RD_ := Kd.R_below (by repeat (first | exact hHeld.2.2 | (with_reducible refine Kd.R_alloc ?_ _) | (with_reducible refine Kd.R_drewN ?_ _) | (with_reducible refine Kd.R_drew ?_))) hb
                       clear hg_ hnew_
                       (first | rw [← Ny265.out] at ho51 | (simp only [Int.reduceToNat] at ho51; rw [← Ny265.out] at ho51))
                       have n0_ := Aside0.mk (Kd.N_lower ho51 (below_size (by repeat (first | (with_reducible first | exact HB.out | apply below_alloc | apply pw_below_drewN | apply below_drew1 | refine below_set ?_ GE261.out | refine below_set ?_ GE279.out) | exact HB.out))))
                       have n1_ := Aside0.mk (blk_below (g := gb261) (o := .cells #[.int .i64 t256, .slice Ao36 t257.length co36] 27 (0, 0)) (by (with_reducible repeat (first | refine blk_drewN ?_ _ | refine blk_drew ?_ | refine blk_alloc ?_ _)); exact BK261.out) hb)
                       have n2_ := Aside0.mk (blk_below (g := gb279) (o := .cells #[.int .i64 0, .slice none 0 0] 27 (0, 0)) (by (with_reducible repeat (first | refine blk_drewN ?_ _ | refine blk_drew ?_ | refine blk_alloc ?_ _)); exact BK279.out) hb)
                       have n3_ := Aside0.mk (below_step (by repeat (first | (with_reducible first | exact HB.out | apply below_alloc | apply pw_below_drewN | apply below_drew1 | refine below_set ?_ GE261.out | refine below_set ?_ GE279.out) | exact HB.out)) hb)
                       clear BK261
                       clear BK279
                       clear HB
                       clear HO_262001
                       have HO267 := n0_
                       have BK261 := n1_
                       have BK279 := n2_
                       have HB := n3_
                       clear n0_ n1_ n2_ n3_
                       clear hb ho51
                       refine hK.out _ _ ⟨(blk_cell BK261.out 0).trans rfl, (blk_cell BK261.out 1).trans rfl, RD_⟩ (fun hHeld => ?_)
                       clear hK K
                       refine norm_ (a' := ?_) ?_ ?_
                       rotate_left
                       ·
                        show Act.put _ (some 73) _ = _
                        simp only [Act.put, List.setIfInBounds_toArray, List.set_cons_zero, List.set_cons_succ, i64_w, i32_w]
                        rfl
                       exact norm_ (by first | (simp only [putAll, Act.put, List.setIfInBounds_toArray, List.set_cons_zero, List.set_cons_succ]; done) | (simp only [putAll, Act.put, List.setIfInBounds_toArray, List.set_cons_zero, List.set_cons_succ]; rfl)) (hJ3_5_10 (v266, gb279) _ ⟨hHeld, (by (with_reducible repeat (first | apply Kd.N_alloc | apply Kd.N_drewN | apply Kd.N_drew)); exact HO267.out), (by (with_reducible repeat (first | refine blk_drewN ?_ _ | refine blk_drew ?_ | refine blk_alloc ?_ _)); exact BK261.out), (by (with_reducible repeat (first | refine blk_drewN ?_ _ | refine blk_drew ?_ | refine blk_alloc ?_ _)); exact BK279.out), GW279.out, GE279.out, NB261_279.out, NB279_261.out, (by repeat (first | (with_reducible first | exact HB.out | apply below_alloc | apply pw_below_drewN | apply below_drew1 | refine below_set ?_ GE261.out | refine below_set ?_ GE279.out) | exact HB.out))⟩)
                    ·
                     skip
                     rintro ⟨v266, gb279⟩ w50 ⟨hS_, h0_, h1_, h2_, h3_, h4_, h5_, h6_, h7_⟩
                     have n0_ : Aside0 (Kd.N k27 27 w50 w.heap.size (fun k_ => k_ ≠ gb261 ∧ k_ ≠ gb279) v266 y265) := ⟨h0_⟩
                     have n1_ : Aside0 (w50.heap[gb261]? = some (.cells #[.int .i64 t256, .slice Ao36 t257.length co36] 27 (0, 0))) := ⟨h1_⟩
                     have n2_ : Aside0 (w50.heap[gb279]? = some (.cells #[.int .i64 0, .slice none 0 0] 27 (0, 0))) := ⟨h2_⟩
                     have n3_ : Aside0 (w.heap.size ≤ gb279) := ⟨h3_⟩
                     have n4_ : Aside0 (w.heap.size ≤ gb279) := ⟨h4_⟩
                     have n5_ : Aside0 (gb261 ≠ gb279) := ⟨h5_⟩
                     have n6_ : Aside0 (gb279 ≠ gb261) := ⟨h6_⟩
                     have n7_ : Aside0 (Below w.heap.size w w50) := ⟨h7_⟩
                     clear HO_262001
                     clear BK261
                     clear HB
                     clear h0_ h1_ h2_ h3_ h4_ h5_ h6_ h7_
                     have HO267 := n0_
                     have BK261 := n1_
                     have BK279 := n2_
                     have GW279 := n3_
                     have GE279 := n4_
                     have NB261_279 := n5_
                     have NB279_261 := n6_
                     have HB := n7_
                     clear n0_ n1_ n2_ n3_ n4_ n5_ n6_ n7_
                     have hHeld : w50.cell? ⟨gb261, 0, none⟩ = some (.int .i64 t256) ∧ w50.cell? ⟨gb261, 1, none⟩ = some (.slice Ao36 t257.length co36) ∧ Kd.R (Kd.int .i64) 3 w50 w.heap.size (fun _ => True) (.slice Ao36 t257.length co36) t257 := hS_
                     refine norm_ (a' := ?_) ?_ ?_
                     rotate_left
                     ·
                      simp only [putAll, Act.put, List.setIfInBounds_toArray, List.set_cons_zero, List.set_cons_succ]
                      rfl
                     refine two_ (i := 0) (j := 5) (Ni := some 70) (Nj := some 75) #[true, false, true, true, true, false, false, false, false, false, true, false, false] #[false, false, true, true, true, true, false, false, false, false, true, false, false] rfl rfl rfl rfl (two_of HT_.out (by kernel_rfl)) (by decide) (by decide) (fun K hK => ?_) (fun K hK => ?_)
                     ·
                      skip
                      refine Kd.R_lit_step (Kd.int .i64) _ 3 ?hg (N := 70) ?hd (xs := ([0] : List Int)) (inner := [.int .i64 0]) (ok := fun _ => True) (okp := fun _ => True) ?hr ?hp (fun _ hk => hk) trivial (Below.refl _ _) (Nat.le_refl _) (by simp) ?_; (case hd => rfl); (case hg => rfl); (case hr => first | (go_simp; done) | (go_simp; rfl)); (case hp => exact (Reps.one (show Kd.M (Kd.int .i64) _ _ _ 0 [.int .i64 0] from rfl) (Reps.none _ _)))
                      intro v263 w51 ho52 hb hg_ hnew_
                      have RD_ := Kd.R_below (by repeat (first | exact hHeld.2.2 | (with_reducible refine Kd.R_alloc ?_ _) | (with_reducible refine Kd.R_drewN ?_ _) | (with_reducible refine Kd.R_drew ?_))) hb
                      clear hg_ hnew_
                      (first | rw [← Ny262.out] at ho52 | (simp only [Int.reduceToNat] at ho52; rw [← Ny262.out] at ho52))
                      have n0_ := Aside0.mk (Kd.N_elder' (by (with_reducible repeat (first | apply Kd.N_alloc | apply Kd.N_drewN | apply Kd.N_drew)); exact HO267.out) (Kd.R_base ho52) hb)
                      have n1_ := Aside0.mk (Kd.R_lower ho52 (below_size (by repeat (first | (with_reducible first | exact HB.out | apply below_alloc | apply pw_below_drewN | apply below_drew1 | refine below_set ?_ GE261.out | refine below_set ?_ GE279.out) | exact HB.out))))
                      have n2_ := Aside0.mk (blk_below (g := gb261) (o := .cells #[.int .i64 t256, .slice Ao36 t257.length co36] 27 (0, 0)) (by (with_reducible repeat (first | refine blk_drewN ?_ _ | refine blk_drew ?_ | refine blk_alloc ?_ _)); exact BK261.out) hb)
                      have n3_ := Aside0.mk (blk_below (g := gb279) (o := .cells #[.int .i64 0, .slice none 0 0] 27 (0, 0)) (by (with_reducible repeat (first | refine blk_drewN ?_ _ | refine blk_drew ?_ | refine blk_alloc ?_ _)); exact BK279.out) hb)
                      have n4_ := Aside0.mk (below_step (by repeat (first | (with_reducible first | exact HB.out | apply below_alloc | apply pw_below_drewN | apply below_drew1 | refine below_set ?_ GE261.out | refine below_set ?_ GE279.out) | exact HB.out)) hb)
                      clear HO267
                      clear BK261
                      clear BK279
                      clear HB
                      have HO267 := n0_
                      have HO264 := n1_
                      have BK261 := n2_
                      have BK279 := n3_
                      have HB := n4_
                      clear n0_ n1_ n2_ n3_ n4_
                      clear hb ho52
                      obtain ⟨Ao53, co53, eo53⟩ := Kd.R_slice HO264.out
                      (first | subst eo53 | (injection eo53 with f1_ f2_ f3_; have f4_ := f1_.symm; have f5_ := f3_.symm; clear f1_ f2_ f3_; subst f4_; subst f5_))
                      refine hK.out _ _ ⟨(blk_cell BK261.out 0).trans rfl, (blk_cell BK261.out 1).trans rfl, RD_⟩ (fun hHeld => ?_)
                      clear hK K
                      refine norm_ (a' := ?_) ?_ ?_
                      rotate_left
                      ·
                       show Act.put _ (some 70) _ = _
                       simp only [Act.put, List.setIfInBounds_toArray, List.set_cons_zero, List.set_cons_succ, i64_w, i32_w]
                       rfl
                      refine pure_ (i := 1) (N := some 71) (v := ?_) (a' := ?_) #[true, true, true, true, true, false, false, false, false, false, true, false, false] rfl rfl (any_of HT_.out (by kernel_rfl)) (fun _ _ _ h => h) (Or.inl ⟨by rfl, ?_⟩) ?_ ?_
                      rotate_left
                      ·
                       intro w'
                       go_simp
                       with_reducible rfl
                      rotate_left
                      ·
                       simp only [Act.put, List.setIfInBounds_toArray, List.set_cons_zero, List.set_cons_succ, i64_w, i32_w]
                       rfl
                      exact norm_ (by first | (simp only [putAll, Act.put, List.setIfInBounds_toArray, List.set_cons_zero, List.set_cons_succ]; done) | (simp only [putAll, Act.put, List.setIfInBounds_toArray, List.set_cons_zero, List.set_cons_succ]; rfl)) (hJ0_3_10 (.slice Ao53 y262.length co53, v266, gb279) _ ⟨hHeld, (by (with_reducible repeat (first | apply Kd.R_alloc | apply Kd.R_drewN | apply Kd.R_drew)); exact HO264.out), (by (with_reducible repeat (first | apply Kd.N_alloc | apply Kd.N_drewN | apply Kd.N_drew)); exact Kd.N_mono HO267.out (fun _ hk => ⟨hk.2, ⟨hk.1.1, hk.1.2⟩⟩)), (by (with_reducible repeat (first | refine blk_drewN ?_ _ | refine blk_drew ?_ | refine blk_alloc ?_ _)); exact BK261.out), (by (with_reducible repeat (first | refine blk_drewN ?_ _ | refine blk_drew ?_ | refine blk_alloc ?_ _)); exact BK279.out), GW279.out, GE279.out, NB261_279.out, NB279_261.out, (by repeat (first | (with_reducible first | exact HB.out | apply below_alloc | apply pw_below_drewN | apply below_drew1 | refine below_set ?_ GE261.out | refine below_set ?_ GE279.out) | exact HB.out))⟩)
                     ·
                      skip
                      refine goes_ Try.func21 (by kernel_rfl) rfl #[.int .i64 a3] (by rfl) rfl rfl (by (try simp only [List.map_toArray, List.map_cons, List.map_nil]); first | done | rfl | (simp only [List.length_drop, List.length_take]; rfl)) ?_
                      with_reducible refine (interlocutorlaw8_Ref.calls a3 t268 t269 t270 t271 t272 t273 _ A39.out).mono ?_
                      rintro e w51 ⟨rfl, hb⟩
                      have RD_ := Kd.R_below (by repeat (first | exact hHeld.2.2 | (with_reducible refine Kd.R_alloc ?_ _) | (with_reducible refine Kd.R_drewN ?_ _) | (with_reducible refine Kd.R_drew ?_))) hb
                      refine ⟨_, rfl, ?_⟩
                      have n0_ := Aside0.mk (Kd.N_below (by (with_reducible repeat (first | apply Kd.N_alloc | apply Kd.N_drewN | apply Kd.N_drew)); exact HO267.out) hb)
                      have n1_ := Aside0.mk (blk_below (g := gb261) (o := .cells #[.int .i64 t256, .slice Ao36 t257.length co36] 27 (0, 0)) (by (with_reducible repeat (first | refine blk_drewN ?_ _ | refine blk_drew ?_ | refine blk_alloc ?_ _)); exact BK261.out) hb)
                      have n2_ := Aside0.mk (blk_below (g := gb279) (o := .cells #[.int .i64 0, .slice none 0 0] 27 (0, 0)) (by (with_reducible repeat (first | refine blk_drewN ?_ _ | refine blk_drew ?_ | refine blk_alloc ?_ _)); exact BK279.out) hb)
                      have n3_ := Aside0.mk (below_step (by repeat (first | (with_reducible first | exact HB.out | apply below_alloc | apply pw_below_drewN | apply below_drew1 | refine below_set ?_ GE261.out | refine below_set ?_ GE279.out) | exact HB.out)) hb)
                      clear HO267
                      clear BK261
                      clear BK279
                      clear HB
                      have HO267 := n0_
                      have BK261 := n1_
                      have BK279 := n2_
                      have HB := n3_
                      clear n0_ n1_ n2_ n3_
                      (try clear hb)
                      (try clear hb2)
                      (try clear hk)
                      (try clear hi)
                      refine hK.out _ _ ⟨(blk_cell BK261.out 0).trans rfl, (blk_cell BK261.out 1).trans rfl, RD_⟩ (fun hHeld => ?_)
                      clear hK K
                      refine norm_ (a' := ?_) ?_ ?_
                      rotate_left
                      ·
                       show Act.put _ (some 75) _ = _
                       simp only [Act.put, List.setIfInBounds_toArray, List.set_cons_zero, List.set_cons_succ, i64_w, i32_w]
                       rfl
                      exact norm_ (by first | (simp only [putAll, Act.put, List.setIfInBounds_toArray, List.set_cons_zero, List.set_cons_succ]; done) | (simp only [putAll, Act.put, List.setIfInBounds_toArray, List.set_cons_zero, List.set_cons_succ]; rfl)) (hJ3_5_10 (v266, gb279) _ ⟨hHeld, (by (with_reducible repeat (first | apply Kd.N_alloc | apply Kd.N_drewN | apply Kd.N_drew)); exact HO267.out), (by (with_reducible repeat (first | refine blk_drewN ?_ _ | refine blk_drew ?_ | refine blk_alloc ?_ _)); exact BK261.out), (by (with_reducible repeat (first | refine blk_drewN ?_ _ | refine blk_drew ?_ | refine blk_alloc ?_ _)); exact BK279.out), GW279.out, GE279.out, NB261_279.out, NB279_261.out, (by repeat (first | (with_reducible first | exact HB.out | apply below_alloc | apply pw_below_drewN | apply below_drew1 | refine below_set ?_ GE261.out | refine below_set ?_ GE279.out) | exact HB.out))⟩)
                   ·
                    skip
                    rintro v266 w50 ⟨hS_, h0_, h1_, h2_⟩
                    have n0_ : Aside0 (Kd.N k27 27 w50 w.heap.size (fun k_ => k_ ≠ gb261) v266 y265) := ⟨h0_⟩
                    have n1_ : Aside0 (w50.heap[gb261]? = some (.cells #[.int .i64 t256, .slice Ao36 t257.length co36] 27 (0, 0))) := ⟨h1_⟩
                    have n2_ : Aside0 (Below w.heap.size w w50) := ⟨h2_⟩
                    clear HO_262001
                    clear BK261
                    clear HB
                    clear h0_ h1_ h2_
                    have HO267 := n0_
                    have BK261 := n1_
                    have HB := n2_
                    clear n0_ n1_ n2_
                    have hHeld : w50.cell? ⟨gb261, 0, none⟩ = some (.int .i64 t256) ∧ w50.cell? ⟨gb261, 1, none⟩ = some (.slice Ao36 t257.length co36) ∧ Kd.R (Kd.int .i64) 3 w50 w.heap.size (fun _ => True) (.slice Ao36 t257.length co36) t257 := hS_
                    refine norm_ (a' := ?_) ?_ ?_
                    rotate_left
                    ·
                     simp only [putAll, Act.put, List.setIfInBounds_toArray, List.set_cons_zero, List.set_cons_succ]
                     rfl
                    refine two_ (i := 0) (j := 10) (Ni := some 70) (Nj := some 18) #[true, false, true, true, true, true, false, false, false, false, false, false, false] #[false, false, true, true, true, true, false, false, false, false, true, false, false] rfl rfl rfl rfl (two_of HT_.out (by kernel_rfl)) (by decide) (by decide) (fun K hK => ?_) (fun K hK => ?_)
                    ·
                     skip
                     refine Kd.R_lit_step (Kd.int .i64) _ 3 ?hg (N := 70) ?hd (xs := ([0] : List Int)) (inner := [.int .i64 0]) (ok := fun _ => True) (okp := fun _ => True) ?hr ?hp (fun _ hk => hk) trivial (Below.refl _ _) (Nat.le_refl _) (by simp) ?_; (case hd => rfl); (case hg => rfl); (case hr => first | (go_simp; done) | (go_simp; rfl)); (case hp => exact (Reps.one (show Kd.M (Kd.int .i64) _ _ _ 0 [.int .i64 0] from rfl) (Reps.none _ _)))
                     intro v263 w51 ho52 hb hg_ hnew_
                     have RD_ := Kd.R_below (by repeat (first | exact hHeld.2.2 | (with_reducible refine Kd.R_alloc ?_ _) | (with_reducible refine Kd.R_drewN ?_ _) | (with_reducible refine Kd.R_drew ?_))) hb
                     clear hg_ hnew_
                     (first | rw [← Ny262.out] at ho52 | (simp only [Int.reduceToNat] at ho52; rw [← Ny262.out] at ho52))
                     have n0_ := Aside0.mk (Kd.N_elder' (by (with_reducible repeat (first | apply Kd.N_alloc | apply Kd.N_drewN | apply Kd.N_drew)); exact HO267.out) (Kd.R_base ho52) hb)
                     have n1_ := Aside0.mk (Kd.R_lower ho52 (below_size (by repeat (first | (with_reducible first | exact HB.out | apply below_alloc | apply pw_below_drewN | apply below_drew1 | refine below_set ?_ GE261.out) | exact HB.out))))
                     have n2_ := Aside0.mk (blk_below (g := gb261) (o := .cells #[.int .i64 t256, .slice Ao36 t257.length co36] 27 (0, 0)) (by (with_reducible repeat (first | refine blk_drewN ?_ _ | refine blk_drew ?_ | refine blk_alloc ?_ _)); exact BK261.out) hb)
                     have n3_ := Aside0.mk (below_step (by repeat (first | (with_reducible first | exact HB.out | apply below_alloc | apply pw_below_drewN | apply below_drew1 | refine below_set ?_ GE261.out) | exact HB.out)) hb)
                     clear HO267
                     clear BK261
                     clear HB
                     have HO267 := n0_
                     have HO264 := n1_
                     have BK261 := n2_
                     have HB := n3_
                     clear n0_ n1_ n2_ n3_
                     clear hb ho52
                     obtain ⟨Ao53, co53, eo53⟩ := Kd.R_slice HO264.out
                     (first | subst eo53 | (injection eo53 with f1_ f2_ f3_; have f4_ := f1_.symm; have f5_ := f3_.symm; clear f1_ f2_ f3_; subst f4_; subst f5_))
                     refine hK.out _ _ ⟨(blk_cell BK261.out 0).trans rfl, (blk_cell BK261.out 1).trans rfl, RD_⟩ (fun hHeld => ?_)
                     clear hK K
                     refine norm_ (a' := ?_) ?_ ?_
                     rotate_left
                     ·
                      show Act.put _ (some 70) _ = _
                      simp only [Act.put, List.setIfInBounds_toArray, List.set_cons_zero, List.set_cons_succ, i64_w, i32_w]
                      rfl
                     refine pure_ (i := 1) (N := some 71) (v := ?_) (a' := ?_) #[true, true, true, true, true, true, false, false, false, false, false, false, false] rfl rfl (any_of HT_.out (by kernel_rfl)) (fun _ _ _ h => h) (Or.inl ⟨by rfl, ?_⟩) ?_ ?_
                     rotate_left
                     ·
                      intro w'
                      go_simp
                      with_reducible rfl
                     rotate_left
                     ·
                      simp only [Act.put, List.setIfInBounds_toArray, List.set_cons_zero, List.set_cons_succ, i64_w, i32_w]
                      rfl
                     exact norm_ (by first | (simp only [putAll, Act.put, List.setIfInBounds_toArray, List.set_cons_zero, List.set_cons_succ]; done) | (simp only [putAll, Act.put, List.setIfInBounds_toArray, List.set_cons_zero, List.set_cons_succ]; rfl)) (hJ0_3_5 (.slice Ao53 y262.length co53, v266) _ ⟨hHeld, (by (with_reducible repeat (first | apply Kd.R_alloc | apply Kd.R_drewN | apply Kd.R_drew)); exact HO264.out), (by (with_reducible repeat (first | apply Kd.N_alloc | apply Kd.N_drewN | apply Kd.N_drew)); exact Kd.N_mono HO267.out (fun _ hk => ⟨hk.2, hk.1⟩)), (by (with_reducible repeat (first | refine blk_drewN ?_ _ | refine blk_drew ?_ | refine blk_alloc ?_ _)); exact BK261.out), (by repeat (first | (with_reducible first | exact HB.out | apply below_alloc | apply pw_below_drewN | apply below_drew1 | refine below_set ?_ GE261.out) | exact HB.out))⟩)
                    ·
                     skip
                     refine box_step ?hg (N := 18) ?hd (cs := #[.int .i64 0, .slice none 0 0]) (t := 27) ?hr ?_; (case hd => rfl); (case hg => rfl); (case hr => first | (go_simp; done) | (go_simp; rfl))
                     intro gb279 hg w51 hbox hb
                     have RD_ := Kd.R_below (by repeat (first | exact hHeld.2.2 | (with_reducible refine Kd.R_alloc ?_ _) | (with_reducible refine Kd.R_drewN ?_ _) | (with_reducible refine Kd.R_drew ?_))) hb
                     have n0_ := Aside0.mk (Kd.N_below (Kd.N_elderB (by (with_reducible repeat (first | apply Kd.N_alloc | apply Kd.N_drewN | apply Kd.N_drew)); exact HO267.out) gb279 (Nat.le_of_eq hg.symm)) hb)
                     have n1_ := Aside0.mk (blk_below (g := gb261) (o := .cells #[.int .i64 t256, .slice Ao36 t257.length co36] 27 (0, 0)) (by (with_reducible repeat (first | refine blk_drewN ?_ _ | refine blk_drew ?_ | refine blk_alloc ?_ _)); exact BK261.out) hb)
                     have n2_ := Aside0.mk (below_step (by repeat (first | (with_reducible first | exact HB.out | apply below_alloc | apply pw_below_drewN | apply below_drew1 | refine below_set ?_ GE261.out) | exact HB.out)) hb)
                     have n3_ := Aside0.mk (hbox)
                     have n4_ := Aside0.mk ((by rw [hg]; exact (below_size (by repeat (first | (with_reducible first | exact HB.out | apply below_alloc | apply pw_below_drewN | apply below_drew1 | refine below_set ?_ GE261.out) | exact HB.out))) : w.heap.size ≤ gb279))
                     have n5_ := Aside0.mk ((by rw [hg]; exact (below_size (by repeat (first | (with_reducible first | exact HB.out | apply below_alloc | apply pw_below_drewN | apply below_drew1 | refine below_set ?_ GE261.out) | exact HB.out))) : w.heap.size ≤ gb279))
                     have n6_ := Aside0.mk ((by rw [hg]; exact Nat.ne_of_lt (blk_lt (g := gb261) (o := .cells #[.int .i64 t256, .slice Ao36 t257.length co36] 27 (0, 0)) (by (with_reducible repeat (first | refine blk_drewN ?_ _ | refine blk_drew ?_ | refine blk_alloc ?_ _)); exact BK261.out)) : gb261 ≠ gb279))
                     have n7_ := Aside0.mk ((by rw [hg]; exact Nat.ne_of_gt (blk_lt (g := gb261) (o := .cells #[.int .i64 t256, .slice Ao36 t257.length co36] 27 (0, 0)) (by (with_reducible repeat (first | refine blk_drewN ?_ _ | refine blk_drew ?_ | refine blk_alloc ?_ _)); exact BK261.out)) : gb279 ≠ gb261))
                     clear HO267
                     clear BK261
                     clear HB
                     have HO267 := n0_
                     have BK261 := n1_
                     have HB := n2_
                     have BK279 := n3_
                     have GW279 := n4_
                     have GE279 := n5_
                     have NB261_279 := n6_
                     have NB279_261 := n7_
                     clear n0_ n1_ n2_ n3_ n4_ n5_ n6_ n7_
                     clear hb hbox hg
                     refine hK.out _ _ ⟨(blk_cell BK261.out 0).trans rfl, (blk_cell BK261.out 1).trans rfl, RD_⟩ (fun hHeld => ?_)
                     clear hK K
                     refine norm_ (a' := ?_) ?_ ?_
                     rotate_left
                     ·
                      show Act.put _ (some 18) _ = _
                      simp only [Act.put, List.setIfInBounds_toArray, List.set_cons_zero, List.set_cons_succ, i64_w, i32_w]
                      rfl
                     exact norm_ (by first | (simp only [putAll, Act.put, List.setIfInBounds_toArray, List.set_cons_zero, List.set_cons_succ]; done) | (simp only [putAll, Act.put, List.setIfInBounds_toArray, List.set_cons_zero, List.set_cons_succ]; rfl)) (hJ3_5_10 (v266, gb279) _ ⟨hHeld, (by (with_reducible repeat (first | apply Kd.N_alloc | apply Kd.N_drewN | apply Kd.N_drew)); exact HO267.out), (by (with_reducible repeat (first | refine blk_drewN ?_ _ | refine blk_drew ?_ | refine blk_alloc ?_ _)); exact BK261.out), (by (with_reducible repeat (first | refine blk_drewN ?_ _ | refine blk_drew ?_ | refine blk_alloc ?_ _)); exact BK279.out), GW279.out, GE279.out, NB261_279.out, NB279_261.out, (by repeat (first | (with_reducible first | exact HB.out | apply below_alloc | apply pw_below_drewN | apply below_drew1 | refine below_set ?_ GE261.out | refine below_set ?_ GE279.out) | exact HB.out))⟩)
                  ·
                   skip
                   rintro ⟨v263, gb279⟩ w51 ⟨hS_, h0_, h1_, h2_, h3_, h4_, h5_, h6_, h7_, h8_⟩
                   have n0_ : Aside0 (Kd.R (Kd.int .i64) 3 w51 w.heap.size (fun k_ => some k_ ≠ (.slice Ao36 t257.length co36 : Value).ownBlock) v263 y262) := ⟨h0_⟩
                   have n1_ : Aside0 (Kd.R (Kd.int .i64) 3 w51 w.heap.size (fun k_ => some k_ ≠ (v263 : Value).ownBlock) (.slice Ao36 t257.length co36) t257) := ⟨h1_⟩
                   have n2_ : Aside0 (w51.heap[gb261]? = some (.cells #[.int .i64 t256, .slice Ao36 t257.length co36] 27 (0, 0))) := ⟨h2_⟩
                   have n3_ : Aside0 (w51.heap[gb279]? = some (.cells #[.int .i64 0, .slice none 0 0] 27 (0, 0))) := ⟨h3_⟩
                   have n4_ : Aside0 (w.heap.size ≤ gb279) := ⟨h4_⟩
                   have n5_ : Aside0 (w.heap.size ≤ gb279) := ⟨h5_⟩
                   have n6_ : Aside0 (gb261 ≠ gb279) := ⟨h6_⟩
                   have n7_ : Aside0 (gb279 ≠ gb261) := ⟨h7_⟩
                   have n8_ : Aside0 (Below w.heap.size w w51) := ⟨h8_⟩
                   clear HO_262001
                   clear BK261
                   clear HB
                   clear h0_ h1_ h2_ h3_ h4_ h5_ h6_ h7_ h8_
                   have HO264 := n0_
                   have HO_262001 := n1_
                   have BK261 := n2_
                   have BK279 := n3_
                   have GW279 := n4_
                   have GE279 := n5_
                   have NB261_279 := n6_
                   have NB279_261 := n7_
                   have HB := n8_
                   clear n0_ n1_ n2_ n3_ n4_ n5_ n6_ n7_ n8_
                   have hHeld : w51.cell? ⟨gb261, 0, none⟩ = some (.int .i64 t256) ∧ w51.cell? ⟨gb261, 1, none⟩ = some (.slice Ao36 t257.length co36) ∧ Kd.R (Kd.int .i64) 3 w51 w.heap.size (fun _ => True) (.slice Ao36 t257.length co36) t257 := hS_
                   obtain ⟨Ao52, co52, eo52⟩ := Kd.R_slice HO264.out
                   (first | subst eo52 | (injection eo52 with f1_ f2_ f3_; have f4_ := f1_.symm; have f5_ := f3_.symm; clear f1_ f2_ f3_; subst f4_; subst f5_))
                   refine norm_ (a' := ?_) ?_ ?_
                   rotate_left
                   ·
                    simp only [putAll, Act.put, List.setIfInBounds_toArray, List.set_cons_zero, List.set_cons_succ]
                    rfl
                   refine two_ (i := 3) (j := 5) (Ni := some 73) (Nj := some 75) #[true, true, true, true, true, false, false, false, false, false, true, false, false] #[true, true, true, false, true, true, false, false, false, false, true, false, false] rfl rfl rfl rfl (two_of HT_.out (by kernel_rfl)) (by decide) (by decide) (fun K hK => ?_) (fun K hK => ?_)
                   ·
                    skip
                    refine Kd.N_lit_step k27 _ 27 ?hg (N' := 73) ?hd (xs := ([(⟨t256, t257⟩ : S27)] : List (S27))) (inner := [.int .i64 t256, .slice Ao36 t257.length co36]) (ok := (fun k_ => some k_ ≠ (.slice Ao52 y262.length co52 : Value).ownBlock ∧ k_ ≠ gb261 ∧ k_ ≠ gb279)) (okp := (fun k_ => some k_ ≠ (.slice Ao52 y262.length co52 : Value).ownBlock ∧ k_ ≠ gb261 ∧ k_ ≠ gb279)) ?hr ?hp (fun _ hk => hk) ((show ∀ k_, w51.heap.size ≤ k_ → (fun k_ => some k_ ≠ (.slice Ao52 y262.length co52 : Value).ownBlock ∧ k_ ≠ gb261 ∧ k_ ≠ gb279) k_ from fun k_ hk => ⟨Kd.fresh' (Kd.R_lt (by (with_reducible repeat (first | apply Kd.R_alloc | apply Kd.R_drewN | apply Kd.R_drew)); exact HO264.out)) k_ hk, Kd.freshB (g := gb261) (o := .cells #[.int .i64 t256, .slice Ao36 t257.length co36] 27 (0, 0)) (by (with_reducible repeat (first | refine blk_drewN ?_ _ | refine blk_drew ?_ | refine blk_alloc ?_ _)); exact BK261.out) k_ hk, Kd.freshB (g := gb279) (o := .cells #[.int .i64 0, .slice none 0 0] 27 (0, 0)) (by (with_reducible repeat (first | refine blk_drewN ?_ _ | refine blk_drew ?_ | refine blk_alloc ?_ _)); exact BK279.out) k_ hk⟩) _ (Nat.le_refl _)) (Below.refl _ _) (Nat.le_refl _) (by simp) ?_; (case hd => rfl); (case hg => rfl); (case hr => first | (go_simp; done) | (go_simp; rfl)); (case hp => exact (Reps.c2 (show Kd.FK k27 _ _ (⟨t256, t257⟩ : S27) [.int .i64 t256, .slice Ao36 t257.length co36] from (k27_mkF _ _ (⟨t256, t257⟩ : S27) (Kd.R_reads' (Kd.R_mono (ok' := (fun k_ => some k_ ≠ (.slice Ao52 y262.length co52 : Value).ownBlock ∧ k_ ≠ gb261 ∧ k_ ≠ gb279)) (Kd.R_types (Kd.R_types (HO_262001.out) BK261.out (by decide)) BK279.out (by decide)) (fun k_ hk => ⟨hk.1.1, ⟨hk.1.2, hk.2⟩⟩))).2.1 (Kd.R_F (Kd.R_mono (ok' := (fun k_ => some k_ ≠ (.slice Ao52 y262.length co52 : Value).ownBlock ∧ k_ ≠ gb261 ∧ k_ ≠ gb279)) (Kd.R_types (Kd.R_types (HO_262001.out) BK261.out (by decide)) BK279.out (by decide)) (fun k_ hk => ⟨hk.1.1, ⟨hk.1.2, hk.2⟩⟩))))) (Reps.none _ _)))
                    intro v266 w53 ho54 hb hg_ hnew_
                    have RD_ := Kd.R_below (by repeat (first | exact hHeld.2.2 | (with_reducible refine Kd.R_alloc ?_ _) | (with_reducible refine Kd.R_drewN ?_ _) | (with_reducible refine Kd.R_drew ?_))) hb
                    clear hg_ hnew_
                    (first | rw [← Ny265.out] at ho54 | (simp only [Int.reduceToNat] at ho54; rw [← Ny265.out] at ho54))
                    have n0_ := Aside0.mk (Kd.R_below (by (with_reducible repeat (first | apply Kd.R_alloc | apply Kd.R_drewN | apply Kd.R_drew)); exact HO264.out) hb)
                    have n1_ := Aside0.mk (Kd.N_lower ho54 (below_size (by repeat (first | (with_reducible first | exact HB.out | apply below_alloc | apply pw_below_drewN | apply below_drew1 | refine below_set ?_ GE261.out | refine below_set ?_ GE279.out) | exact HB.out))))
                    have n2_ := Aside0.mk (blk_below (g := gb261) (o := .cells #[.int .i64 t256, .slice Ao36 t257.length co36] 27 (0, 0)) (by (with_reducible repeat (first | refine blk_drewN ?_ _ | refine blk_drew ?_ | refine blk_alloc ?_ _)); exact BK261.out) hb)
                    have n3_ := Aside0.mk (blk_below (g := gb279) (o := .cells #[.int .i64 0, .slice none 0 0] 27 (0, 0)) (by (with_reducible repeat (first | refine blk_drewN ?_ _ | refine blk_drew ?_ | refine blk_alloc ?_ _)); exact BK279.out) hb)
                    have n4_ := Aside0.mk (below_step (by repeat (first | (with_reducible first | exact HB.out | apply below_alloc | apply pw_below_drewN | apply below_drew1 | refine below_set ?_ GE261.out | refine below_set ?_ GE279.out) | exact HB.out)) hb)
                    clear HO264
                    clear BK261
                    clear BK279
                    clear HB
                    clear HO_262001
                    have HO264 := n0_
                    have HO267 := n1_
                    have BK261 := n2_
                    have BK279 := n3_
                    have HB := n4_
                    clear n0_ n1_ n2_ n3_ n4_
                    clear hb ho54
                    refine hK.out _ _ ⟨(blk_cell BK261.out 0).trans rfl, (blk_cell BK261.out 1).trans rfl, RD_⟩ (fun hHeld => ?_)
                    clear hK K
                    refine norm_ (a' := ?_) ?_ ?_
                    rotate_left
                    ·
                     show Act.put _ (some 73) _ = _
                     simp only [Act.put, List.setIfInBounds_toArray, List.set_cons_zero, List.set_cons_succ, i64_w, i32_w]
                     rfl
                    exact norm_ (by first | (simp only [putAll, Act.put, List.setIfInBounds_toArray, List.set_cons_zero, List.set_cons_succ]; done) | (simp only [putAll, Act.put, List.setIfInBounds_toArray, List.set_cons_zero, List.set_cons_succ]; rfl)) (hJ0_3_10 (.slice Ao52 y262.length co52, v266, gb279) _ ⟨hHeld, (by (with_reducible repeat (first | apply Kd.R_alloc | apply Kd.R_drewN | apply Kd.R_drew)); exact Kd.R_mono HO264.out (fun _ hk => trivial)), (by (with_reducible repeat (first | apply Kd.N_alloc | apply Kd.N_drewN | apply Kd.N_drew)); exact HO267.out), (by (with_reducible repeat (first | refine blk_drewN ?_ _ | refine blk_drew ?_ | refine blk_alloc ?_ _)); exact BK261.out), (by (with_reducible repeat (first | refine blk_drewN ?_ _ | refine blk_drew ?_ | refine blk_alloc ?_ _)); exact BK279.out), GW279.out, GE279.out, NB261_279.out, NB279_261.out, (by repeat (first | (with_reducible first | exact HB.out | apply below_alloc | apply pw_below_drewN | apply below_drew1 | refine below_set ?_ GE261.out | refine below_set ?_ GE279.out) | exact HB.out))⟩)
                   ·
                    skip
                    refine goes_ Try.func21 (by kernel_rfl) rfl #[.int .i64 a3] (by rfl) rfl rfl (by (try simp only [List.map_toArray, List.map_cons, List.map_nil]); first | done | rfl | (simp only [List.length_drop, List.length_take]; rfl)) ?_
                    with_reducible refine (interlocutorlaw8_Ref.calls a3 t268 t269 t270 t271 t272 t273 _ A39.out).mono ?_
                    rintro e w53 ⟨rfl, hb⟩
                    have RD_ := Kd.R_below (by repeat (first | exact hHeld.2.2 | (with_reducible refine Kd.R_alloc ?_ _) | (with_reducible refine Kd.R_drewN ?_ _) | (with_reducible refine Kd.R_drew ?_))) hb
                    refine ⟨_, rfl, ?_⟩
                    have n0_ := Aside0.mk (Kd.R_below (by (with_reducible repeat (first | apply Kd.R_alloc | apply Kd.R_drewN | apply Kd.R_drew)); exact HO_262001.out) hb)
                    have n1_ := Aside0.mk (Kd.R_below (by (with_reducible repeat (first | apply Kd.R_alloc | apply Kd.R_drewN | apply Kd.R_drew)); exact HO264.out) hb)
                    have n2_ := Aside0.mk (blk_below (g := gb261) (o := .cells #[.int .i64 t256, .slice Ao36 t257.length co36] 27 (0, 0)) (by (with_reducible repeat (first | refine blk_drewN ?_ _ | refine blk_drew ?_ | refine blk_alloc ?_ _)); exact BK261.out) hb)
                    have n3_ := Aside0.mk (blk_below (g := gb279) (o := .cells #[.int .i64 0, .slice none 0 0] 27 (0, 0)) (by (with_reducible repeat (first | refine blk_drewN ?_ _ | refine blk_drew ?_ | refine blk_alloc ?_ _)); exact BK279.out) hb)
                    have n4_ := Aside0.mk (below_step (by repeat (first | (with_reducible first | exact HB.out | apply below_alloc | apply pw_below_drewN | apply below_drew1 | refine below_set ?_ GE261.out | refine below_set ?_ GE279.out) | exact HB.out)) hb)
                    clear HO_262001
                    clear HO264
                    clear BK261
                    clear BK279
                    clear HB
                    have HO_262001 := n0_
                    have HO264 := n1_
                    have BK261 := n2_
                    have BK279 := n3_
                    have HB := n4_
                    clear n0_ n1_ n2_ n3_ n4_
                    (try clear hb)
                    (try clear hb2)
                    (try clear hk)
                    (try clear hi)
                    refine hK.out _ _ ⟨(blk_cell BK261.out 0).trans rfl, (blk_cell BK261.out 1).trans rfl, RD_⟩ (fun hHeld => ?_)
                    clear hK K
                    refine norm_ (a' := ?_) ?_ ?_
                    rotate_left
                    ·
                     show Act.put _ (some 75) _ = _
                     simp only [Act.put, List.setIfInBounds_toArray, List.set_cons_zero, List.set_cons_succ, i64_w, i32_w]
                     rfl
                    exact norm_ (by first | (simp only [putAll, Act.put, List.setIfInBounds_toArray, List.set_cons_zero, List.set_cons_succ]; done) | (simp only [putAll, Act.put, List.setIfInBounds_toArray, List.set_cons_zero, List.set_cons_succ]; rfl)) (hJ0_5_10 (.slice Ao52 y262.length co52, gb279) _ ⟨hHeld, (by (with_reducible repeat (first | apply Kd.R_alloc | apply Kd.R_drewN | apply Kd.R_drew)); exact HO264.out), (by (with_reducible repeat (first | apply Kd.R_alloc | apply Kd.R_drewN | apply Kd.R_drew)); exact HO_262001.out), (by (with_reducible repeat (first | refine blk_drewN ?_ _ | refine blk_drew ?_ | refine blk_alloc ?_ _)); exact BK261.out), (by (with_reducible repeat (first | refine blk_drewN ?_ _ | refine blk_drew ?_ | refine blk_alloc ?_ _)); exact BK279.out), GW279.out, GE279.out, NB261_279.out, NB279_261.out, (by repeat (first | (with_reducible first | exact HB.out | apply below_alloc | apply pw_below_drewN | apply below_drew1 | refine below_set ?_ GE261.out | refine below_set ?_ GE279.out) | exact HB.out))⟩)
                 ·
                  skip
                  rintro v263 w51 ⟨hS_, h0_, h1_, h2_, h3_⟩
                  have n0_ : Aside0 (Kd.R (Kd.int .i64) 3 w51 w.heap.size (fun k_ => some k_ ≠ (.slice Ao36 t257.length co36 : Value).ownBlock) v263 y262) := ⟨h0_⟩
                  have n1_ : Aside0 (Kd.R (Kd.int .i64) 3 w51 w.heap.size (fun k_ => some k_ ≠ (v263 : Value).ownBlock) (.slice Ao36 t257.length co36) t257) := ⟨h1_⟩
                  have n2_ : Aside0 (w51.heap[gb261]? = some (.cells #[.int .i64 t256, .slice Ao36 t257.length co36] 27 (0, 0))) := ⟨h2_⟩
                  have n3_ : Aside0 (Below w.heap.size w w51) := ⟨h3_⟩
                  clear HO_262001
                  clear BK261
                  clear HB
                  clear h0_ h1_ h2_ h3_
                  have HO264 := n0_
                  have HO_262001 := n1_
                  have BK261 := n2_
                  have HB := n3_
                  clear n0_ n1_ n2_ n3_
                  have hHeld : w51.cell? ⟨gb261, 0, none⟩ = some (.int .i64 t256) ∧ w51.cell? ⟨gb261, 1, none⟩ = some (.slice Ao36 t257.length co36) ∧ Kd.R (Kd.int .i64) 3 w51 w.heap.size (fun _ => True) (.slice Ao36 t257.length co36) t257 := hS_
                  obtain ⟨Ao52, co52, eo52⟩ := Kd.R_slice HO264.out
                  (first | subst eo52 | (injection eo52 with f1_ f2_ f3_; have f4_ := f1_.symm; have f5_ := f3_.symm; clear f1_ f2_ f3_; subst f4_; subst f5_))
                  refine norm_ (a' := ?_) ?_ ?_
                  rotate_left
                  ·
                   simp only [putAll, Act.put, List.setIfInBounds_toArray, List.set_cons_zero, List.set_cons_succ]
                   rfl
                  refine two_ (i := 3) (j := 10) (Ni := some 73) (Nj := some 18) #[true, true, true, true, true, true, false, false, false, false, false, false, false] #[true, true, true, false, true, true, false, false, false, false, true, false, false] rfl rfl rfl rfl (two_of HT_.out (by kernel_rfl)) (by decide) (by decide) (fun K hK => ?_) (fun K hK => ?_)
                  ·
                   skip
                   refine Kd.N_lit_step k27 _ 27 ?hg (N' := 73) ?hd (xs := ([(⟨t256, t257⟩ : S27)] : List (S27))) (inner := [.int .i64 t256, .slice Ao36 t257.length co36]) (ok := (fun k_ => some k_ ≠ (.slice Ao52 y262.length co52 : Value).ownBlock ∧ k_ ≠ gb261)) (okp := (fun k_ => some k_ ≠ (.slice Ao52 y262.length co52 : Value).ownBlock ∧ k_ ≠ gb261)) ?hr ?hp (fun _ hk => hk) ((show ∀ k_, w51.heap.size ≤ k_ → (fun k_ => some k_ ≠ (.slice Ao52 y262.length co52 : Value).ownBlock ∧ k_ ≠ gb261) k_ from fun k_ hk => ⟨Kd.fresh' (Kd.R_lt (by (with_reducible repeat (first | apply Kd.R_alloc | apply Kd.R_drewN | apply Kd.R_drew)); exact HO264.out)) k_ hk, Kd.freshB (g := gb261) (o := .cells #[.int .i64 t256, .slice Ao36 t257.length co36] 27 (0, 0)) (by (with_reducible repeat (first | refine blk_drewN ?_ _ | refine blk_drew ?_ | refine blk_alloc ?_ _)); exact BK261.out) k_ hk⟩) _ (Nat.le_refl _)) (Below.refl _ _) (Nat.le_refl _) (by simp) ?_; (case hd => rfl); (case hg => rfl); (case hr => first | (go_simp; done) | (go_simp; rfl)); (case hp => exact (Reps.c2 (show Kd.FK k27 _ _ (⟨t256, t257⟩ : S27) [.int .i64 t256, .slice Ao36 t257.length co36] from (k27_mkF _ _ (⟨t256, t257⟩ : S27) (Kd.R_reads' (Kd.R_mono (ok' := (fun k_ => some k_ ≠ (.slice Ao52 y262.length co52 : Value).ownBlock ∧ k_ ≠ gb261)) (Kd.R_types (HO_262001.out) BK261.out (by decide)) (fun k_ hk => ⟨hk.1, hk.2⟩))).2.1 (Kd.R_F (Kd.R_mono (ok' := (fun k_ => some k_ ≠ (.slice Ao52 y262.length co52 : Value).ownBlock ∧ k_ ≠ gb261)) (Kd.R_types (HO_262001.out) BK261.out (by decide)) (fun k_ hk => ⟨hk.1, hk.2⟩))))) (Reps.none _ _)))
                   intro v266 w53 ho54 hb hg_ hnew_
                   have RD_ := Kd.R_below (by repeat (first | exact hHeld.2.2 | (with_reducible refine Kd.R_alloc ?_ _) | (with_reducible refine Kd.R_drewN ?_ _) | (with_reducible refine Kd.R_drew ?_))) hb
                   clear hg_ hnew_
                   (first | rw [← Ny265.out] at ho54 | (simp only [Int.reduceToNat] at ho54; rw [← Ny265.out] at ho54))
                   have n0_ := Aside0.mk (Kd.R_below (by (with_reducible repeat (first | apply Kd.R_alloc | apply Kd.R_drewN | apply Kd.R_drew)); exact HO264.out) hb)
                   have n1_ := Aside0.mk (Kd.N_lower ho54 (below_size (by repeat (first | (with_reducible first | exact HB.out | apply below_alloc | apply pw_below_drewN | apply below_drew1 | refine below_set ?_ GE261.out) | exact HB.out))))
                   have n2_ := Aside0.mk (blk_below (g := gb261) (o := .cells #[.int .i64 t256, .slice Ao36 t257.length co36] 27 (0, 0)) (by (with_reducible repeat (first | refine blk_drewN ?_ _ | refine blk_drew ?_ | refine blk_alloc ?_ _)); exact BK261.out) hb)
                   have n3_ := Aside0.mk (below_step (by repeat (first | (with_reducible first | exact HB.out | apply below_alloc | apply pw_below_drewN | apply below_drew1 | refine below_set ?_ GE261.out) | exact HB.out)) hb)
                   clear HO264
                   clear BK261
                   clear HB
                   clear HO_262001
                   have HO264 := n0_
                   have HO267 := n1_
                   have BK261 := n2_
                   have HB := n3_
                   clear n0_ n1_ n2_ n3_
                   clear hb ho54
                   refine hK.out _ _ ⟨(blk_cell BK261.out 0).trans rfl, (blk_cell BK261.out 1).trans rfl, RD_⟩ (fun hHeld => ?_)
                   clear hK K
                   refine norm_ (a' := ?_) ?_ ?_
                   rotate_left
                   ·
                    show Act.put _ (some 73) _ = _
                    simp only [Act.put, List.setIfInBounds_toArray, List.set_cons_zero, List.set_cons_succ, i64_w, i32_w]
                    rfl
                   exact norm_ (by first | (simp only [putAll, Act.put, List.setIfInBounds_toArray, List.set_cons_zero, List.set_cons_succ]; done) | (simp only [putAll, Act.put, List.setIfInBounds_toArray, List.set_cons_zero, List.set_cons_succ]; rfl)) (hJ0_3_5 (.slice Ao52 y262.length co52, v266) _ ⟨hHeld, (by (with_reducible repeat (first | apply Kd.R_alloc | apply Kd.R_drewN | apply Kd.R_drew)); exact Kd.R_mono HO264.out (fun _ hk => trivial)), (by (with_reducible repeat (first | apply Kd.N_alloc | apply Kd.N_drewN | apply Kd.N_drew)); exact HO267.out), (by (with_reducible repeat (first | refine blk_drewN ?_ _ | refine blk_drew ?_ | refine blk_alloc ?_ _)); exact BK261.out), (by repeat (first | (with_reducible first | exact HB.out | apply below_alloc | apply pw_below_drewN | apply below_drew1 | refine below_set ?_ GE261.out) | exact HB.out))⟩)
                  ·
                   skip
                   refine box_step ?hg (N := 18) ?hd (cs := #[.int .i64 0, .slice none 0 0]) (t := 27) ?hr ?_; (case hd => rfl); (case hg => rfl); (case hr => first | (go_simp; done) | (go_simp; rfl))
                   intro gb279 hg w53 hbox hb
                   have RD_ := Kd.R_below (by repeat (first | exact hHeld.2.2 | (with_reducible refine Kd.R_alloc ?_ _) | (with_reducible refine Kd.R_drewN ?_ _) | (with_reducible refine Kd.R_drew ?_))) hb
                   have n0_ := Aside0.mk (Kd.R_below (by (with_reducible repeat (first | apply Kd.R_alloc | apply Kd.R_drewN | apply Kd.R_drew)); exact HO_262001.out) hb)
                   have n1_ := Aside0.mk (Kd.R_below (by (with_reducible repeat (first | apply Kd.R_alloc | apply Kd.R_drewN | apply Kd.R_drew)); exact HO264.out) hb)
                   have n2_ := Aside0.mk (blk_below (g := gb261) (o := .cells #[.int .i64 t256, .slice Ao36 t257.length co36] 27 (0, 0)) (by (with_reducible repeat (first | refine blk_drewN ?_ _ | refine blk_drew ?_ | refine blk_alloc ?_ _)); exact BK261.out) hb)
                   have n3_ := Aside0.mk (below_step (by repeat (first | (with_reducible first | exact HB.out | apply below_alloc | apply pw_below_drewN | apply below_drew1 | refine below_set ?_ GE261.out) | exact HB.out)) hb)
                   have n4_ := Aside0.mk (hbox)
                   have n5_ := Aside0.mk ((by rw [hg]; exact (below_size (by repeat (first | (with_reducible first | exact HB.out | apply below_alloc | apply pw_below_drewN | apply below_drew1 | refine below_set ?_ GE261.out) | exact HB.out))) : w.heap.size ≤ gb279))
                   have n6_ := Aside0.mk ((by rw [hg]; exact (below_size (by repeat (first | (with_reducible first | exact HB.out | apply below_alloc | apply pw_below_drewN | apply below_drew1 | refine below_set ?_ GE261.out) | exact HB.out))) : w.heap.size ≤ gb279))
                   have n7_ := Aside0.mk ((by rw [hg]; exact Nat.ne_of_lt (blk_lt (g := gb261) (o := .cells #[.int .i64 t256, .slice Ao36 t257.length co36] 27 (0, 0)) (by (with_reducible repeat (first | refine blk_drewN ?_ _ | refine blk_drew ?_ | refine blk_alloc ?_ _)); exact BK261.out)) : gb261 ≠ gb279))
                   have n8_ := Aside0.mk ((by rw [hg]; exact Nat.ne_of_gt (blk_lt (g := gb261) (o := .cells #[.int .i64 t256, .slice Ao36 t257.length co36] 27 (0, 0)) (by (with_reducible repeat (first | refine blk_drewN ?_ _ | refine blk_drew ?_ | refine blk_alloc ?_ _)); exact BK261.out)) : gb279 ≠ gb261))
                   clear HO_262001
                   clear HO264
                   clear BK261
                   clear HB
                   have HO_262001 := n0_
                   have HO264 := n1_
                   have BK261 := n2_
                   have HB := n3_
                   have BK279 := n4_
                   have GW279 := n5_
                   have GE279 := n6_
                   have NB261_279 := n7_
                   have NB279_261 := n8_
                   clear n0_ n1_ n2_ n3_ n4_ n5_ n6_ n7_ n8_
                   clear hb hbox hg
                   refine hK.out _ _ ⟨(blk_cell BK261.out 0).trans rfl, (blk_cell BK261.out 1).trans rfl, RD_⟩ (fun hHeld => ?_)
                   clear hK K
                   refine norm_ (a' := ?_) ?_ ?_
                   rotate_left
                   ·
                    show Act.put _ (some 18) _ = _
                    simp only [Act.put, List.setIfInBounds_toArray, List.set_cons_zero, List.set_cons_succ, i64_w, i32_w]
                    rfl
                   exact norm_ (by first | (simp only [putAll, Act.put, List.setIfInBounds_toArray, List.set_cons_zero, List.set_cons_succ]; done) | (simp only [putAll, Act.put, List.setIfInBounds_toArray, List.set_cons_zero, List.set_cons_succ]; rfl)) (hJ0_5_10 (.slice Ao52 y262.length co52, gb279) _ ⟨hHeld, (by (with_reducible repeat (first | apply Kd.R_alloc | apply Kd.R_drewN | apply Kd.R_drew)); exact HO264.out), (by (with_reducible repeat (first | apply Kd.R_alloc | apply Kd.R_drewN | apply Kd.R_drew)); exact HO_262001.out), (by (with_reducible repeat (first | refine blk_drewN ?_ _ | refine blk_drew ?_ | refine blk_alloc ?_ _)); exact BK261.out), (by (with_reducible repeat (first | refine blk_drewN ?_ _ | refine blk_drew ?_ | refine blk_alloc ?_ _)); exact BK279.out), GW279.out, GE279.out, NB261_279.out, NB279_261.out, (by repeat (first | (with_reducible first | exact HB.out | apply below_alloc | apply pw_below_drewN | apply below_drew1 | refine below_set ?_ GE261.out | refine below_set ?_ GE279.out) | exact HB.out))⟩)
                ·
                 skip
                 rintro ⟨v263, v266⟩ w52 ⟨hS_, h0_, h1_, h2_, h3_⟩
                 have n0_ : Aside0 (Kd.R (Kd.int .i64) 3 w52 w.heap.size (fun _ => True) v263 y262) := ⟨h0_⟩
                 have n1_ : Aside0 (Kd.N k27 27 w52 w.heap.size (fun k_ => some k_ ≠ (v263 : Value).ownBlock ∧ k_ ≠ gb261) v266 y265) := ⟨h1_⟩
                 have n2_ : Aside0 (w52.heap[gb261]? = some (.cells #[.int .i64 t256, .slice Ao36 t257.length co36] 27 (0, 0))) := ⟨h2_⟩
                 have n3_ : Aside0 (Below w.heap.size w w52) := ⟨h3_⟩
                 clear HO_262001
                 clear BK261
                 clear HB
                 clear h0_ h1_ h2_ h3_
                 have HO264 := n0_
                 have HO267 := n1_
                 have BK261 := n2_
                 have HB := n3_
                 clear n0_ n1_ n2_ n3_
                 have hHeld : w52.cell? ⟨gb261, 0, none⟩ = some (.int .i64 t256) ∧ w52.cell? ⟨gb261, 1, none⟩ = some (.slice Ao36 t257.length co36) ∧ Kd.R (Kd.int .i64) 3 w52 w.heap.size (fun _ => True) (.slice Ao36 t257.length co36) t257 := hS_
                 obtain ⟨Ao53, co53, eo53⟩ := Kd.R_slice HO264.out
                 (first | subst eo53 | (injection eo53 with f1_ f2_ f3_; have f4_ := f1_.symm; have f5_ := f3_.symm; clear f1_ f2_ f3_; subst f4_; subst f5_))
                 refine norm_ (a' := ?_) ?_ ?_
                 rotate_left
                 ·
                  simp only [putAll, Act.put, List.setIfInBounds_toArray, List.set_cons_zero, List.set_cons_succ]
                  rfl
                 refine two_ (i := 5) (j := 10) (Ni := some 75) (Nj := some 18) #[true, true, true, true, true, true, false, false, false, false, false, false, false] #[true, true, true, true, true, false, false, false, false, false, true, false, false] rfl rfl rfl rfl (two_of HT_.out (by kernel_rfl)) (by decide) (by decide) (fun K hK => ?_) (fun K hK => ?_)
                 ·
                  skip
                  refine goes_ Try.func21 (by kernel_rfl) rfl #[.int .i64 a3] (by rfl) rfl rfl (by (try simp only [List.map_toArray, List.map_cons, List.map_nil]); first | done | rfl | (simp only [List.length_drop, List.length_take]; rfl)) ?_
                  with_reducible refine (interlocutorlaw8_Ref.calls a3 t268 t269 t270 t271 t272 t273 _ A39.out).mono ?_
                  rintro e w54 ⟨rfl, hb⟩
                  have RD_ := Kd.R_below (by repeat (first | exact hHeld.2.2 | (with_reducible refine Kd.R_alloc ?_ _) | (with_reducible refine Kd.R_drewN ?_ _) | (with_reducible refine Kd.R_drew ?_))) hb
                  refine ⟨_, rfl, ?_⟩
                  have n0_ := Aside0.mk (Kd.R_below (by (with_reducible repeat (first | apply Kd.R_alloc | apply Kd.R_drewN | apply Kd.R_drew)); exact HO264.out) hb)
                  have n1_ := Aside0.mk (Kd.N_below (by (with_reducible repeat (first | apply Kd.N_alloc | apply Kd.N_drewN | apply Kd.N_drew)); exact HO267.out) hb)
                  have n2_ := Aside0.mk (blk_below (g := gb261) (o := .cells #[.int .i64 t256, .slice Ao36 t257.length co36] 27 (0, 0)) (by (with_reducible repeat (first | refine blk_drewN ?_ _ | refine blk_drew ?_ | refine blk_alloc ?_ _)); exact BK261.out) hb)
                  have n3_ := Aside0.mk (below_step (by repeat (first | (with_reducible first | exact HB.out | apply below_alloc | apply pw_below_drewN | apply below_drew1 | refine below_set ?_ GE261.out) | exact HB.out)) hb)
                  clear HO264
                  clear HO267
                  clear BK261
                  clear HB
                  have HO264 := n0_
                  have HO267 := n1_
                  have BK261 := n2_
                  have HB := n3_
                  clear n0_ n1_ n2_ n3_
                  (try clear hb)
                  (try clear hb2)
                  (try clear hk)
                  (try clear hi)
                  refine hK.out _ _ ⟨(blk_cell BK261.out 0).trans rfl, (blk_cell BK261.out 1).trans rfl, RD_⟩ (fun hHeld => ?_)
                  clear hK K
                  refine norm_ (a' := ?_) ?_ ?_
                  rotate_left
                  ·
                   show Act.put _ (some 75) _ = _
                   simp only [Act.put, List.setIfInBounds_toArray, List.set_cons_zero, List.set_cons_succ, i64_w, i32_w]
                   rfl
                  exact norm_ (by first | (simp only [putAll, Act.put, List.setIfInBounds_toArray, List.set_cons_zero, List.set_cons_succ]; done) | (simp only [putAll, Act.put, List.setIfInBounds_toArray, List.set_cons_zero, List.set_cons_succ]; rfl)) (hJ0_3_5 (.slice Ao53 y262.length co53, v266) _ ⟨hHeld, (by (with_reducible repeat (first | apply Kd.R_alloc | apply Kd.R_drewN | apply Kd.R_drew)); exact HO264.out), (by (with_reducible repeat (first | apply Kd.N_alloc | apply Kd.N_drewN | apply Kd.N_drew)); exact HO267.out), (by (with_reducible repeat (first | refine blk_drewN ?_ _ | refine blk_drew ?_ | refine blk_alloc ?_ _)); exact BK261.out), (by repeat (first | (with_reducible first | exact HB.out | apply below_alloc | apply pw_below_drewN | apply below_drew1 | refine below_set ?_ GE261.out) | exact HB.out))⟩)
                 ·
                  skip
                  refine box_step ?hg (N := 18) ?hd (cs := #[.int .i64 0, .slice none 0 0]) (t := 27) ?hr ?_; (case hd => rfl); (case hg => rfl); (case hr => first | (go_simp; done) | (go_simp; rfl))
                  intro gb279 hg w54 hbox hb
                  have RD_ := Kd.R_below (by repeat (first | exact hHeld.2.2 | (with_reducible refine Kd.R_alloc ?_ _) | (with_reducible refine Kd.R_drewN ?_ _) | (with_reducible refine Kd.R_drew ?_))) hb
                  have n0_ := Aside0.mk (Kd.R_below (by (with_reducible repeat (first | apply Kd.R_alloc | apply Kd.R_drewN | apply Kd.R_drew)); exact HO264.out) hb)
                  have n1_ := Aside0.mk (Kd.N_below (Kd.N_elderB (by (with_reducible repeat (first | apply Kd.N_alloc | apply Kd.N_drewN | apply Kd.N_drew)); exact HO267.out) gb279 (Nat.le_of_eq hg.symm)) hb)
                  have n2_ := Aside0.mk (blk_below (g := gb261) (o := .cells #[.int .i64 t256, .slice Ao36 t257.length co36] 27 (0, 0)) (by (with_reducible repeat (first | refine blk_drewN ?_ _ | refine blk_drew ?_ | refine blk_alloc ?_ _)); exact BK261.out) hb)
                  have n3_ := Aside0.mk (below_step (by repeat (first | (with_reducible first | exact HB.out | apply below_alloc | apply pw_below_drewN | apply below_drew1 | refine below_set ?_ GE261.out) | exact HB.out)) hb)
                  have n4_ := Aside0.mk (hbox)
                  have n5_ := Aside0.mk ((by rw [hg]; exact (below_size (by repeat (first | (with_reducible first | exact HB.out | apply below_alloc | apply pw_below_drewN | apply below_drew1 | refine below_set ?_ GE261.out) | exact HB.out))) : w.heap.size ≤ gb279))
                  have n6_ := Aside0.mk ((by rw [hg]; exact (below_size (by repeat (first | (with_reducible first | exact HB.out | apply below_alloc | apply pw_below_drewN | apply below_drew1 | refine below_set ?_ GE261.out) | exact HB.out))) : w.heap.size ≤ gb279))
                  have n7_ := Aside0.mk ((by rw [hg]; exact Nat.ne_of_lt (blk_lt (g := gb261) (o := .cells #[.int .i64 t256, .slice Ao36 t257.length co36] 27 (0, 0)) (by (with_reducible repeat (first | refine blk_drewN ?_ _ | refine blk_drew ?_ | refine blk_alloc ?_ _)); exact BK261.out)) : gb261 ≠ gb279))
                  have n8_ := Aside0.mk ((by rw [hg]; exact Nat.ne_of_gt (blk_lt (g := gb261) (o := .cells #[.int .i64 t256, .slice Ao36 t257.length co36] 27 (0, 0)) (by (with_reducible repeat (first | refine blk_drewN ?_ _ | refine blk_drew ?_ | refine blk_alloc ?_ _)); exact BK261.out)) : gb279 ≠ gb261))
                  clear HO264
                  clear HO267
                  clear BK261
                  clear HB
                  have HO264 := n0_
                  have HO267 := n1_
                  have BK261 := n2_
                  have HB := n3_
                  have BK279 := n4_
                  have GW279 := n5_
                  have GE279 := n6_
                  have NB261_279 := n7_
                  have NB279_261 := n8_
                  clear n0_ n1_ n2_ n3_ n4_ n5_ n6_ n7_ n8_
                  clear hb hbox hg
                  refine hK.out _ _ ⟨(blk_cell BK261.out 0).trans rfl, (blk_cell BK261.out 1).trans rfl, RD_⟩ (fun hHeld => ?_)
                  clear hK K
                  refine norm_ (a' := ?_) ?_ ?_
                  rotate_left
                  ·
                   show Act.put _ (some 18) _ = _
                   simp only [Act.put, List.setIfInBounds_toArray, List.set_cons_zero, List.set_cons_succ, i64_w, i32_w]
                   rfl
                  exact norm_ (by first | (simp only [putAll, Act.put, List.setIfInBounds_toArray, List.set_cons_zero, List.set_cons_succ]; done) | (simp only [putAll, Act.put, List.setIfInBounds_toArray, List.set_cons_zero, List.set_cons_succ]; rfl)) (hJ0_3_10 (.slice Ao53 y262.length co53, v266, gb279) _ ⟨hHeld, (by (with_reducible repeat (first | apply Kd.R_alloc | apply Kd.R_drewN | apply Kd.R_drew)); exact HO264.out), (by (with_reducible repeat (first | apply Kd.N_alloc | apply Kd.N_drewN | apply Kd.N_drew)); exact Kd.N_mono HO267.out (fun _ hk => ⟨hk.1.1, ⟨hk.1.2, hk.2⟩⟩)), (by (with_reducible repeat (first | refine blk_drewN ?_ _ | refine blk_drew ?_ | refine blk_alloc ?_ _)); exact BK261.out), (by (with_reducible repeat (first | refine blk_drewN ?_ _ | refine blk_drew ?_ | refine blk_alloc ?_ _)); exact BK279.out), GW279.out, GE279.out, NB261_279.out, NB279_261.out, (by repeat (first | (with_reducible first | exact HB.out | apply below_alloc | apply pw_below_drewN | apply below_drew1 | refine below_set ?_ GE261.out | refine below_set ?_ GE279.out) | exact HB.out))⟩)
               ·
                skip
                rintro ⟨v266, gb279⟩ w51 ⟨hS_, h0_, h1_, h2_, h3_, h4_, h5_, h6_, h7_⟩
                have n0_ : Aside0 (Kd.N k27 27 w51 w.heap.size (fun k_ => k_ ≠ gb261 ∧ k_ ≠ gb279) v266 y265) := ⟨h0_⟩
                have n1_ : Aside0 (w51.heap[gb261]? = some (.cells #[.int .i64 t256, .slice Ao36 t257.length co36] 27 (0, 0))) := ⟨h1_⟩
                have n2_ : Aside0 (w51.heap[gb279]? = some (.cells #[.int .i64 0, .slice none 0 0] 27 (0, 0))) := ⟨h2_⟩
                have n3_ : Aside0 (w.heap.size ≤ gb279) := ⟨h3_⟩
                have n4_ : Aside0 (w.heap.size ≤ gb279) := ⟨h4_⟩
                have n5_ : Aside0 (gb261 ≠ gb279) := ⟨h5_⟩
                have n6_ : Aside0 (gb279 ≠ gb261) := ⟨h6_⟩
                have n7_ : Aside0 (Below w.heap.size w w51) := ⟨h7_⟩
                clear HO_262001
                clear BK261
                clear HB
                clear h0_ h1_ h2_ h3_ h4_ h5_ h6_ h7_
                have HO267 := n0_
                have BK261 := n1_
                have BK279 := n2_
                have GW279 := n3_
                have GE279 := n4_
                have NB261_279 := n5_
                have NB279_261 := n6_
                have HB := n7_
                clear n0_ n1_ n2_ n3_ n4_ n5_ n6_ n7_
                have hHeld : w51.cell? ⟨gb261, 0, none⟩ = some (.int .i64 t256) ∧ w51.cell? ⟨gb261, 1, none⟩ = some (.slice Ao36 t257.length co36) ∧ Kd.R (Kd.int .i64) 3 w51 w.heap.size (fun _ => True) (.slice Ao36 t257.length co36) t257 := hS_
                refine norm_ (a' := ?_) ?_ ?_
                rotate_left
                ·
                 simp only [putAll, Act.put, List.setIfInBounds_toArray, List.set_cons_zero, List.set_cons_succ]
                 rfl
                refine one_ (i := 0) (N := some 70) #[true, false, true, true, true, true, false, false, false, false, true, false, false] rfl rfl (one_of HT_.out (by kernel_rfl)) (by decide) (fun K hK => ?_)
                refine Kd.R_lit_step (Kd.int .i64) _ 3 ?hg (N := 70) ?hd (xs := ([0] : List Int)) (inner := [.int .i64 0]) (ok := fun _ => True) (okp := fun _ => True) ?hr ?hp (fun _ hk => hk) trivial (Below.refl _ _) (Nat.le_refl _) (by simp) ?_; (case hd => rfl); (case hg => rfl); (case hr => first | (go_simp; done) | (go_simp; rfl)); (case hp => exact (Reps.one (show Kd.M (Kd.int .i64) _ _ _ 0 [.int .i64 0] from rfl) (Reps.none _ _)))
                intro v263 w52 ho53 hb hg_ hnew_
                have RD_ := Kd.R_below (by repeat (first | exact hHeld.2.2 | (with_reducible refine Kd.R_alloc ?_ _) | (with_reducible refine Kd.R_drewN ?_ _) | (with_reducible refine Kd.R_drew ?_))) hb
                clear hg_ hnew_
                (first | rw [← Ny262.out] at ho53 | (simp only [Int.reduceToNat] at ho53; rw [← Ny262.out] at ho53))
                have n0_ := Aside0.mk (Kd.N_elder' (by (with_reducible repeat (first | apply Kd.N_alloc | apply Kd.N_drewN | apply Kd.N_drew)); exact HO267.out) (Kd.R_base ho53) hb)
                have n1_ := Aside0.mk (Kd.R_lower ho53 (below_size (by repeat (first | (with_reducible first | exact HB.out | apply below_alloc | apply pw_below_drewN | apply below_drew1 | refine below_set ?_ GE261.out | refine below_set ?_ GE279.out) | exact HB.out))))
                have n2_ := Aside0.mk (blk_below (g := gb261) (o := .cells #[.int .i64 t256, .slice Ao36 t257.length co36] 27 (0, 0)) (by (with_reducible repeat (first | refine blk_drewN ?_ _ | refine blk_drew ?_ | refine blk_alloc ?_ _)); exact BK261.out) hb)
                have n3_ := Aside0.mk (blk_below (g := gb279) (o := .cells #[.int .i64 0, .slice none 0 0] 27 (0, 0)) (by (with_reducible repeat (first | refine blk_drewN ?_ _ | refine blk_drew ?_ | refine blk_alloc ?_ _)); exact BK279.out) hb)
                have n4_ := Aside0.mk (below_step (by repeat (first | (with_reducible first | exact HB.out | apply below_alloc | apply pw_below_drewN | apply below_drew1 | refine below_set ?_ GE261.out | refine below_set ?_ GE279.out) | exact HB.out)) hb)
                clear HO267
                clear BK261
                clear BK279
                clear HB
                have HO267 := n0_
                have HO264 := n1_
                have BK261 := n2_
                have BK279 := n3_
                have HB := n4_
                clear n0_ n1_ n2_ n3_ n4_
                clear hb ho53
                obtain ⟨Ao54, co54, eo54⟩ := Kd.R_slice HO264.out
                (first | subst eo54 | (injection eo54 with f1_ f2_ f3_; have f4_ := f1_.symm; have f5_ := f3_.symm; clear f1_ f2_ f3_; subst f4_; subst f5_))
                refine hK.out _ _ ⟨(blk_cell BK261.out 0).trans rfl, (blk_cell BK261.out 1).trans rfl, RD_⟩ (fun hHeld => ?_)
                clear hK K
                refine norm_ (a' := ?_) ?_ ?_
                rotate_left
                ·
                 show Act.put _ (some 70) _ = _
                 simp only [Act.put, List.setIfInBounds_toArray, List.set_cons_zero, List.set_cons_succ, i64_w, i32_w]
                 rfl
                refine pure_ (i := 1) (N := some 71) (v := ?_) (a' := ?_) #[true, true, true, true, true, true, false, false, false, false, true, false, false] rfl rfl (any_of HT_.out (by kernel_rfl)) (fun _ _ _ h => h) (Or.inl ⟨by rfl, ?_⟩) ?_ ?_
                rotate_left
                ·
                 intro w'
                 go_simp
                 with_reducible rfl
                rotate_left
                ·
                 simp only [Act.put, List.setIfInBounds_toArray, List.set_cons_zero, List.set_cons_succ, i64_w, i32_w]
                 rfl
                exact norm_ (by first | (simp only [putAll, Act.put, List.setIfInBounds_toArray, List.set_cons_zero, List.set_cons_succ]; done) | (simp only [putAll, Act.put, List.setIfInBounds_toArray, List.set_cons_zero, List.set_cons_succ]; rfl)) (hJ0_3_5_10 (.slice Ao54 y262.length co54, v266, gb279) _ ⟨hHeld, (by (with_reducible repeat (first | apply Kd.R_alloc | apply Kd.R_drewN | apply Kd.R_drew)); exact HO264.out), (by (with_reducible repeat (first | apply Kd.N_alloc | apply Kd.N_drewN | apply Kd.N_drew)); exact Kd.N_mono HO267.out (fun _ hk => ⟨hk.2, ⟨hk.1.1, hk.1.2⟩⟩)), (by (with_reducible repeat (first | refine blk_drewN ?_ _ | refine blk_drew ?_ | refine blk_alloc ?_ _)); exact BK261.out), (by (with_reducible repeat (first | refine blk_drewN ?_ _ | refine blk_drew ?_ | refine blk_alloc ?_ _)); exact BK279.out), GW279.out, GE279.out, NB261_279.out, NB279_261.out, (by repeat (first | (with_reducible first | exact HB.out | apply below_alloc | apply pw_below_drewN | apply below_drew1 | refine below_set ?_ GE261.out | refine below_set ?_ GE279.out) | exact HB.out))⟩)
              ·
               skip
               rintro ⟨v263, gb279⟩ w52 ⟨hS_, h0_, h1_, h2_, h3_, h4_, h5_, h6_, h7_, h8_⟩
               have n0_ : Aside0 (Kd.R (Kd.int .i64) 3 w52 w.heap.size (fun k_ => some k_ ≠ (.slice Ao36 t257.length co36 : Value).ownBlock) v263 y262) := ⟨h0_⟩
               have n1_ : Aside0 (Kd.R (Kd.int .i64) 3 w52 w.heap.size (fun k_ => some k_ ≠ (v263 : Value).ownBlock) (.slice Ao36 t257.length co36) t257) := ⟨h1_⟩
               have n2_ : Aside0 (w52.heap[gb261]? = some (.cells #[.int .i64 t256, .slice Ao36 t257.length co36] 27 (0, 0))) := ⟨h2_⟩
               have n3_ : Aside0 (w52.heap[gb279]? = some (.cells #[.int .i64 0, .slice none 0 0] 27 (0, 0))) := ⟨h3_⟩
               have n4_ : Aside0 (w.heap.size ≤ gb279) := ⟨h4_⟩
               have n5_ : Aside0 (w.heap.size ≤ gb279) := ⟨h5_⟩
               have n6_ : Aside0 (gb261 ≠ gb279) := ⟨h6_⟩
               have n7_ : Aside0 (gb279 ≠ gb261) := ⟨h7_⟩
               have n8_ : Aside0 (Below w.heap.size w w52) := ⟨h8_⟩
               clear HO_262001
               clear BK261
               clear HB
               clear h0_ h1_ h2_ h3_ h4_ h5_ h6_ h7_ h8_
               have HO264 := n0_
               have HO_262001 := n1_
               have BK261 := n2_
               have BK279 := n3_
               have GW279 := n4_
               have GE279 := n5_
               have NB261_279 := n6_
               have NB279_261 := n7_
               have HB := n8_
               clear n0_ n1_ n2_ n3_ n4_ n5_ n6_ n7_ n8_
               have hHeld : w52.cell? ⟨gb261, 0, none⟩ = some (.int .i64 t256) ∧ w52.cell? ⟨gb261, 1, none⟩ = some (.slice Ao36 t257.length co36) ∧ Kd.R (Kd.int .i64) 3 w52 w.heap.size (fun _ => True) (.slice Ao36 t257.length co36) t257 := hS_
               obtain ⟨Ao53, co53, eo53⟩ := Kd.R_slice HO264.out
               (first | subst eo53 | (injection eo53 with f1_ f2_ f3_; have f4_ := f1_.symm; have f5_ := f3_.symm; clear f1_ f2_ f3_; subst f4_; subst f5_))
               refine norm_ (a' := ?_) ?_ ?_
               rotate_left
               ·
                simp only [putAll, Act.put, List.setIfInBounds_toArray, List.set_cons_zero, List.set_cons_succ]
                rfl
               refine one_ (i := 3) (N := some 73) #[true, true, true, true, true, true, false, false, false, false, true, false, false] rfl rfl (one_of HT_.out (by kernel_rfl)) (by decide) (fun K hK => ?_)
               refine Kd.N_lit_step k27 _ 27 ?hg (N' := 73) ?hd (xs := ([(⟨t256, t257⟩ : S27)] : List (S27))) (inner := [.int .i64 t256, .slice Ao36 t257.length co36]) (ok := (fun k_ => some k_ ≠ (.slice Ao53 y262.length co53 : Value).ownBlock ∧ k_ ≠ gb261 ∧ k_ ≠ gb279)) (okp := (fun k_ => some k_ ≠ (.slice Ao53 y262.length co53 : Value).ownBlock ∧ k_ ≠ gb261 ∧ k_ ≠ gb279)) ?hr ?hp (fun _ hk => hk) ((show ∀ k_, w52.heap.size ≤ k_ → (fun k_ => some k_ ≠ (.slice Ao53 y262.length co53 : Value).ownBlock ∧ k_ ≠ gb261 ∧ k_ ≠ gb279) k_ from fun k_ hk => ⟨Kd.fresh' (Kd.R_lt (by (with_reducible repeat (first | apply Kd.R_alloc | apply Kd.R_drewN | apply Kd.R_drew)); exact HO264.out)) k_ hk, Kd.freshB (g := gb261) (o := .cells #[.int .i64 t256, .slice Ao36 t257.length co36] 27 (0, 0)) (by (with_reducible repeat (first | refine blk_drewN ?_ _ | refine blk_drew ?_ | refine blk_alloc ?_ _)); exact BK261.out) k_ hk, Kd.freshB (g := gb279) (o := .cells #[.int .i64 0, .slice none 0 0] 27 (0, 0)) (by (with_reducible repeat (first | refine blk_drewN ?_ _ | refine blk_drew ?_ | refine blk_alloc ?_ _)); exact BK279.out) k_ hk⟩) _ (Nat.le_refl _)) (Below.refl _ _) (Nat.le_refl _) (by simp) ?_; (case hd => rfl); (case hg => rfl); (case hr => first | (go_simp; done) | (go_simp; rfl)); (case hp => exact (Reps.c2 (show Kd.FK k27 _ _ (⟨t256, t257⟩ : S27) [.int .i64 t256, .slice Ao36 t257.length co36] from (k27_mkF _ _ (⟨t256, t257⟩ : S27) (Kd.R_reads' (Kd.R_mono (ok' := (fun k_ => some k_ ≠ (.slice Ao53 y262.length co53 : Value).ownBlock ∧ k_ ≠ gb261 ∧ k_ ≠ gb279)) (Kd.R_types (Kd.R_types (HO_262001.out) BK261.out (by decide)) BK279.out (by decide)) (fun k_ hk => ⟨hk.1.1, ⟨hk.1.2, hk.2⟩⟩))).2.1 (Kd.R_F (Kd.R_mono (ok' := (fun k_ => some k_ ≠ (.slice Ao53 y262.length co53 : Value).ownBlock ∧ k_ ≠ gb261 ∧ k_ ≠ gb279)) (Kd.R_types (Kd.R_types (HO_262001.out) BK261.out (by decide)) BK279.out (by decide)) (fun k_ hk => ⟨hk.1.1, ⟨hk.1.2, hk.2⟩⟩))))) (Reps.none _ _)))
               intro v266 w54 ho55 hb hg_ hnew_
               have RD_ := Kd.R_below (by repeat (first | exact hHeld.2.2 | (with_reducible refine Kd.R_alloc ?_ _) | (with_reducible refine Kd.R_drewN ?_ _) | (with_reducible refine Kd.R_drew ?_))) hb
               clear hg_ hnew_
               (first | rw [← Ny265.out] at ho55 | (simp only [Int.reduceToNat] at ho55; rw [← Ny265.out] at ho55))
               have n0_ := Aside0.mk (Kd.R_below (by (with_reducible repeat (first | apply Kd.R_alloc | apply Kd.R_drewN | apply Kd.R_drew)); exact HO264.out) hb)
               have n1_ := Aside0.mk (Kd.N_lower ho55 (below_size (by repeat (first | (with_reducible first | exact HB.out | apply below_alloc | apply pw_below_drewN | apply below_drew1 | refine below_set ?_ GE261.out | refine below_set ?_ GE279.out) | exact HB.out))))
               have n2_ := Aside0.mk (blk_below (g := gb261) (o := .cells #[.int .i64 t256, .slice Ao36 t257.length co36] 27 (0, 0)) (by (with_reducible repeat (first | refine blk_drewN ?_ _ | refine blk_drew ?_ | refine blk_alloc ?_ _)); exact BK261.out) hb)
               have n3_ := Aside0.mk (blk_below (g := gb279) (o := .cells #[.int .i64 0, .slice none 0 0] 27 (0, 0)) (by (with_reducible repeat (first | refine blk_drewN ?_ _ | refine blk_drew ?_ | refine blk_alloc ?_ _)); exact BK279.out) hb)
               have n4_ := Aside0.mk (below_step (by repeat (first | (with_reducible first | exact HB.out | apply below_alloc | apply pw_below_drewN | apply below_drew1 | refine below_set ?_ GE261.out | refine below_set ?_ GE279.out) | exact HB.out)) hb)
               clear HO264
               clear BK261
               clear BK279
               clear HB
               clear HO_262001
               have HO264 := n0_
               have HO267 := n1_
               have BK261 := n2_
               have BK279 := n3_
               have HB := n4_
               clear n0_ n1_ n2_ n3_ n4_
               clear hb ho55
               refine hK.out _ _ ⟨(blk_cell BK261.out 0).trans rfl, (blk_cell BK261.out 1).trans rfl, RD_⟩ (fun hHeld => ?_)
               clear hK K
               refine norm_ (a' := ?_) ?_ ?_
               rotate_left
               ·
                show Act.put _ (some 73) _ = _
                simp only [Act.put, List.setIfInBounds_toArray, List.set_cons_zero, List.set_cons_succ, i64_w, i32_w]
                rfl
               exact norm_ (by first | (simp only [putAll, Act.put, List.setIfInBounds_toArray, List.set_cons_zero, List.set_cons_succ]; done) | (simp only [putAll, Act.put, List.setIfInBounds_toArray, List.set_cons_zero, List.set_cons_succ]; rfl)) (hJ0_3_5_10 (.slice Ao53 y262.length co53, v266, gb279) _ ⟨hHeld, (by (with_reducible repeat (first | apply Kd.R_alloc | apply Kd.R_drewN | apply Kd.R_drew)); exact Kd.R_mono HO264.out (fun _ hk => trivial)), (by (with_reducible repeat (first | apply Kd.N_alloc | apply Kd.N_drewN | apply Kd.N_drew)); exact HO267.out), (by (with_reducible repeat (first | refine blk_drewN ?_ _ | refine blk_drew ?_ | refine blk_alloc ?_ _)); exact BK261.out), (by (with_reducible repeat (first | refine blk_drewN ?_ _ | refine blk_drew ?_ | refine blk_alloc ?_ _)); exact BK279.out), GW279.out, GE279.out, NB261_279.out, NB279_261.out, (by repeat (first | (with_reducible first | exact HB.out | apply below_alloc | apply pw_below_drewN | apply below_drew1 | refine below_set ?_ GE261.out | refine below_set ?_ GE279.out) | exact HB.out))⟩)
             ·
              skip
              rintro ⟨v263, v266, gb279⟩ w53 ⟨hS_, h0_, h1_, h2_, h3_, h4_, h5_, h6_, h7_, h8_⟩
              have n0_ : Aside0 (Kd.R (Kd.int .i64) 3 w53 w.heap.size (fun _ => True) v263 y262) := ⟨h0_⟩
              have n1_ : Aside0 (Kd.N k27 27 w53 w.heap.size (fun k_ => some k_ ≠ (v263 : Value).ownBlock ∧ k_ ≠ gb261 ∧ k_ ≠ gb279) v266 y265) := ⟨h1_⟩
              have n2_ : Aside0 (w53.heap[gb261]? = some (.cells #[.int .i64 t256, .slice Ao36 t257.length co36] 27 (0, 0))) := ⟨h2_⟩
              have n3_ : Aside0 (w53.heap[gb279]? = some (.cells #[.int .i64 0, .slice none 0 0] 27 (0, 0))) := ⟨h3_⟩
              have n4_ : Aside0 (w.heap.size ≤ gb279) := ⟨h4_⟩
              have n5_ : Aside0 (w.heap.size ≤ gb279) := ⟨h5_⟩
              have n6_ : Aside0 (gb261 ≠ gb279) := ⟨h6_⟩
              have n7_ : Aside0 (gb279 ≠ gb261) := ⟨h7_⟩
              have n8_ : Aside0 (Below w.heap.size w w53) := ⟨h8_⟩
              clear HO_262001
              clear BK261
              clear HB
              clear h0_ h1_ h2_ h3_ h4_ h5_ h6_ h7_ h8_
              have HO264 := n0_
              have HO267 := n1_
              have BK261 := n2_
              have BK279 := n3_
              have GW279 := n4_
              have GE279 := n5_
              have NB261_279 := n6_
              have NB279_261 := n7_
              have HB := n8_
              clear n0_ n1_ n2_ n3_ n4_ n5_ n6_ n7_ n8_
              have hHeld : w53.cell? ⟨gb261, 0, none⟩ = some (.int .i64 t256) ∧ w53.cell? ⟨gb261, 1, none⟩ = some (.slice Ao36 t257.length co36) ∧ Kd.R (Kd.int .i64) 3 w53 w.heap.size (fun _ => True) (.slice Ao36 t257.length co36) t257 := hS_
              obtain ⟨Ao54, co54, eo54⟩ := Kd.R_slice HO264.out
              (first | subst eo54 | (injection eo54 with f1_ f2_ f3_; have f4_ := f1_.symm; have f5_ := f3_.symm; clear f1_ f2_ f3_; subst f4_; subst f5_))
              refine norm_ (a' := ?_) ?_ ?_
              rotate_left
              ·
               simp only [putAll, Act.put, List.setIfInBounds_toArray, List.set_cons_zero, List.set_cons_succ]
               rfl
              refine one_ (i := 5) (N := some 75) #[true, true, true, true, true, true, false, false, false, false, true, false, false] rfl rfl (one_of HT_.out (by kernel_rfl)) (by decide) (fun K hK => ?_)
              refine goes_ Try.func21 (by kernel_rfl) rfl #[.int .i64 a3] (by rfl) rfl rfl (by (try simp only [List.map_toArray, List.map_cons, List.map_nil]); first | done | rfl | (simp only [List.length_drop, List.length_take]; rfl)) ?_
              with_reducible refine (interlocutorlaw8_Ref.calls a3 t268 t269 t270 t271 t272 t273 _ A39.out).mono ?_
              rintro e w55 ⟨rfl, hb⟩
              have RD_ := Kd.R_below (by repeat (first | exact hHeld.2.2 | (with_reducible refine Kd.R_alloc ?_ _) | (with_reducible refine Kd.R_drewN ?_ _) | (with_reducible refine Kd.R_drew ?_))) hb
              refine ⟨_, rfl, ?_⟩
              have n0_ := Aside0.mk (Kd.R_below (by (with_reducible repeat (first | apply Kd.R_alloc | apply Kd.R_drewN | apply Kd.R_drew)); exact HO264.out) hb)
              have n1_ := Aside0.mk (Kd.N_below (by (with_reducible repeat (first | apply Kd.N_alloc | apply Kd.N_drewN | apply Kd.N_drew)); exact HO267.out) hb)
              have n2_ := Aside0.mk (blk_below (g := gb261) (o := .cells #[.int .i64 t256, .slice Ao36 t257.length co36] 27 (0, 0)) (by (with_reducible repeat (first | refine blk_drewN ?_ _ | refine blk_drew ?_ | refine blk_alloc ?_ _)); exact BK261.out) hb)
              have n3_ := Aside0.mk (blk_below (g := gb279) (o := .cells #[.int .i64 0, .slice none 0 0] 27 (0, 0)) (by (with_reducible repeat (first | refine blk_drewN ?_ _ | refine blk_drew ?_ | refine blk_alloc ?_ _)); exact BK279.out) hb)
              have n4_ := Aside0.mk (below_step (by repeat (first | (with_reducible first | exact HB.out | apply below_alloc | apply pw_below_drewN | apply below_drew1 | refine below_set ?_ GE261.out | refine below_set ?_ GE279.out) | exact HB.out)) hb)
              clear HO264
              clear HO267
              clear BK261
              clear BK279
              clear HB
              have HO264 := n0_
              have HO267 := n1_
              have BK261 := n2_
              have BK279 := n3_
              have HB := n4_
              clear n0_ n1_ n2_ n3_ n4_
              (try clear hb)
              (try clear hb2)
              (try clear hk)
              (try clear hi)
              refine hK.out _ _ ⟨(blk_cell BK261.out 0).trans rfl, (blk_cell BK261.out 1).trans rfl, RD_⟩ (fun hHeld => ?_)
              clear hK K
              refine norm_ (a' := ?_) ?_ ?_
              rotate_left
              ·
               show Act.put _ (some 75) _ = _
               simp only [Act.put, List.setIfInBounds_toArray, List.set_cons_zero, List.set_cons_succ, i64_w, i32_w]
               rfl
              exact norm_ (by first | (simp only [putAll, Act.put, List.setIfInBounds_toArray, List.set_cons_zero, List.set_cons_succ]; done) | (simp only [putAll, Act.put, List.setIfInBounds_toArray, List.set_cons_zero, List.set_cons_succ]; rfl)) (hJ0_3_5_10 (.slice Ao54 y262.length co54, v266, gb279) _ ⟨hHeld, (by (with_reducible repeat (first | apply Kd.R_alloc | apply Kd.R_drewN | apply Kd.R_drew)); exact HO264.out), (by (with_reducible repeat (first | apply Kd.N_alloc | apply Kd.N_drewN | apply Kd.N_drew)); exact HO267.out), (by (with_reducible repeat (first | refine blk_drewN ?_ _ | refine blk_drew ?_ | refine blk_alloc ?_ _)); exact BK261.out), (by (with_reducible repeat (first | refine blk_drewN ?_ _ | refine blk_drew ?_ | refine blk_alloc ?_ _)); exact BK279.out), GW279.out, GE279.out, NB261_279.out, NB279_261.out, (by repeat (first | (with_reducible first | exact HB.out | apply below_alloc | apply pw_below_drewN | apply below_drew1 | refine below_set ?_ GE261.out | refine below_set ?_ GE279.out) | exact HB.out))⟩)
            ·
             skip
             rintro ⟨v263, v266⟩ w53 ⟨hS_, h0_, h1_, h2_, h3_⟩
             have n0_ : Aside0 (Kd.R (Kd.int .i64) 3 w53 w.heap.size (fun _ => True) v263 y262) := ⟨h0_⟩
             have n1_ : Aside0 (Kd.N k27 27 w53 w.heap.size (fun k_ => some k_ ≠ (v263 : Value).ownBlock ∧ k_ ≠ gb261) v266 y265) := ⟨h1_⟩
             have n2_ : Aside0 (w53.heap[gb261]? = some (.cells #[.int .i64 t256, .slice Ao36 t257.length co36] 27 (0, 0))) := ⟨h2_⟩
             have n3_ : Aside0 (Below w.heap.size w w53) := ⟨h3_⟩
             clear HO_262001
             clear BK261
             clear HB
             clear h0_ h1_ h2_ h3_
             have HO264 := n0_
             have HO267 := n1_
             have BK261 := n2_
             have HB := n3_
             clear n0_ n1_ n2_ n3_
             have hHeld : w53.cell? ⟨gb261, 0, none⟩ = some (.int .i64 t256) ∧ w53.cell? ⟨gb261, 1, none⟩ = some (.slice Ao36 t257.length co36) ∧ Kd.R (Kd.int .i64) 3 w53 w.heap.size (fun _ => True) (.slice Ao36 t257.length co36) t257 := hS_
             obtain ⟨Ao54, co54, eo54⟩ := Kd.R_slice HO264.out
             (first | subst eo54 | (injection eo54 with f1_ f2_ f3_; have f4_ := f1_.symm; have f5_ := f3_.symm; clear f1_ f2_ f3_; subst f4_; subst f5_))
             obtain ⟨Ao55, co55, eo55⟩ := Kd.N_slice HO267.out
             (first | subst eo55 | (injection eo55 with f1_ f2_ f3_; have f4_ := f1_.symm; have f5_ := f3_.symm; clear f1_ f2_ f3_; subst f4_; subst f5_))
             refine norm_ (a' := ?_) ?_ ?_
             rotate_left
             ·
              simp only [putAll, Act.put, List.setIfInBounds_toArray, List.set_cons_zero, List.set_cons_succ]
              rfl
             refine two_ (i := 6) (j := 10) (Ni := some 76) (Nj := some 18) #[true, true, true, true, true, true, true, false, false, false, false, false, false] #[true, true, true, true, true, true, false, false, false, false, true, false, false] rfl rfl rfl rfl (two_of HT_.out (by kernel_rfl)) (by decide) (by decide) (fun K hK => ?_) (fun K hK => ?_)
             ·
              skip
              refine goes_ Try.func22 (by kernel_rfl) rfl #[.agg #[.int .i64 11, .slice Ao54 y262.length co54], .slice Ao55 y265.length co55, .agg #[.int .i64 t268, .int .i64 t269, .int .i64 t270, .int .i64 t271, .int .i64 t272, .int .i64 t273]] (by rfl) rfl rfl (by (try simp only [List.map_toArray, List.map_cons, List.map_nil]); first | done | rfl | (simp only [List.length_drop, List.length_take]; rfl)) ?_
              with_reducible refine (act_Do.calls kj14 11 _ _ y262 _ _ y265 t268 t269 t270 t271 t272 t273 t274 t275 true _ ?side1 ?side2 ?side3 ?side4 A40.out).mono ?_
              (case side1 => repeat (first | exact (Kd.R_reads' HO264.out).2.2 | (with_reducible refine Kd.C_alloc ?_ _) | (with_reducible refine Kd.C_drewN ?_ _) | (with_reducible refine Kd.C_drew ?_)))
              (case side2 => exact (Kd.R_reads' HO264.out).2.1)
              (case side3 => repeat (first | exact (Kd.N_reads' HO267.out).2.2 | (with_reducible refine Kd.C_alloc ?_ _) | (with_reducible refine Kd.C_drewN ?_ _) | (with_reducible refine Kd.C_drew ?_)))
              (case side4 => exact (Kd.N_reads' HO267.out).2.1)
              rintro e w56 ⟨v276, rfl, ho0, hb⟩
              have RD_ := Kd.R_below (by repeat (first | exact hHeld.2.2 | (with_reducible refine Kd.R_alloc ?_ _) | (with_reducible refine Kd.R_drewN ?_ _) | (with_reducible refine Kd.R_drew ?_))) hb
              refine ⟨_, rfl, ?_⟩
              have n0_ := Aside0.mk (Kd.R_elder' (by (with_reducible repeat (first | apply Kd.R_alloc | apply Kd.R_drewN | apply Kd.R_drew)); exact HO264.out) (Kd.R_base ho0) hb)
              have n1_ := Aside0.mk (Kd.N_elder' (by (with_reducible repeat (first | apply Kd.N_alloc | apply Kd.N_drewN | apply Kd.N_drew)); exact HO267.out) (Kd.R_base ho0) hb)
              have n2_ := Aside0.mk (Kd.R_lower (Kd.R_new' ho0 (Kd.R_lt (by (with_reducible repeat (first | apply Kd.R_alloc | apply Kd.R_drewN | apply Kd.R_drew)); exact HO264.out))) (below_size (by repeat (first | (with_reducible first | exact HB.out | apply below_alloc | apply pw_below_drewN | apply below_drew1 | refine below_set ?_ GE261.out) | exact HB.out))))
              have n3_ := Aside0.mk (blk_below (g := gb261) (o := .cells #[.int .i64 t256, .slice Ao36 t257.length co36] 27 (0, 0)) (by (with_reducible repeat (first | refine blk_drewN ?_ _ | refine blk_drew ?_ | refine blk_alloc ?_ _)); exact BK261.out) hb)
              have n4_ := Aside0.mk (below_step (by repeat (first | (with_reducible first | exact HB.out | apply below_alloc | apply pw_below_drewN | apply below_drew1 | refine below_set ?_ GE261.out) | exact HB.out)) hb)
              clear HO264
              clear HO267
              clear BK261
              clear HB
              have HO264 := n0_
              have HO267 := n1_
              have HO277 := n2_
              have BK261 := n3_
              have HB := n4_
              clear n0_ n1_ n2_ n3_ n4_
              (try clear hb)
              (try clear hb2)
              (try clear hk)
              (try clear hi)
              (try clear ho0)
              refine hK.out _ _ ⟨(blk_cell BK261.out 0).trans rfl, (blk_cell BK261.out 1).trans rfl, RD_⟩ (fun hHeld => ?_)
              clear hK K
              refine norm_ (a' := ?_) ?_ ?_
              rotate_left
              ·
               show Act.put _ (some 76) _ = _
               simp only [Act.put, List.setIfInBounds_toArray, List.set_cons_zero, List.set_cons_succ, i64_w, i32_w]
               rfl
              refine pure_ (i := 7) (N := some 69) (v := ?_) (a' := ?_) #[true, true, true, true, true, true, true, true, false, false, false, false, false] rfl rfl (any_of HT_.out (by kernel_rfl)) (fun _ _ _ h => h) (Or.inl ⟨by rfl, ?_⟩) ?_ ?_
              rotate_left
              ·
               intro w'
               go_simp
               with_reducible rfl
              rotate_left
              ·
               simp only [Act.put, List.setIfInBounds_toArray, List.set_cons_zero, List.set_cons_succ, i64_w, i32_w]
               rfl
              refine pure_ (i := 8) (N := some 77) (v := ?_) (a' := ?_) #[true, true, true, true, true, true, true, true, true, false, false, false, false] rfl rfl (any_of HT_.out (by kernel_rfl)) (fun _ _ _ h => h) (Or.inl ⟨by rfl, ?_⟩) ?_ ?_
              rotate_left
              ·
               intro w'
               go_simp
               with_reducible rfl
              rotate_left
              ·
               simp only [Act.put, List.setIfInBounds_toArray, List.set_cons_zero, List.set_cons_succ, i64_w, i32_w]
               rfl
              refine pure_ (i := 9) (N := some 78) (v := ?_) (a' := ?_) #[true, true, true, true, true, true, true, true, true, true, false, false, false] rfl rfl (any_of HT_.out (by kernel_rfl)) (fun _ _ _ h => h) (Or.inl ⟨by rfl, ?_⟩) ?_ ?_
              rotate_left
              ·
               intro w'
               go_simp
               with_reducible rfl
              rotate_left
              ·
               simp only [Act.put, List.setIfInBounds_toArray, List.set_cons_zero, List.set_cons_succ, i64_w, i32_w]
               rfl
              exact norm_ (by first | (simp only [putAll, Act.put, List.setIfInBounds_toArray, List.set_cons_zero, List.set_cons_succ]; done) | (simp only [putAll, Act.put, List.setIfInBounds_toArray, List.set_cons_zero, List.set_cons_succ]; rfl)) (hJ0_3_5_6 (.slice Ao54 y262.length co54, .slice Ao55 y265.length co55, v276) _ ⟨hHeld, (by (with_reducible repeat (first | apply Kd.R_alloc | apply Kd.R_drewN | apply Kd.R_drew)); exact Kd.R_mono HO264.out (fun _ hk => hk.2)), (by (with_reducible repeat (first | apply Kd.N_alloc | apply Kd.N_drewN | apply Kd.N_drew)); exact Kd.N_mono HO267.out (fun _ hk => ⟨hk.1.1, ⟨hk.2, hk.1.2⟩⟩)), (by (with_reducible repeat (first | apply Kd.R_alloc | apply Kd.R_drewN | apply Kd.R_drew)); exact Kd.R_mono HO277.out (fun _ hk => hk.2)), (by (with_reducible repeat (first | refine blk_drewN ?_ _ | refine blk_drew ?_ | refine blk_alloc ?_ _)); exact BK261.out), (by repeat (first | (with_reducible first | exact HB.out | apply below_alloc | apply pw_below_drewN | apply below_drew1 | refine below_set ?_ GE261.out) | exact HB.out))⟩)
             ·
              skip
              refine box_step ?hg (N := 18) ?hd (cs := #[.int .i64 0, .slice none 0 0]) (t := 27) ?hr ?_; (case hd => rfl); (case hg => rfl); (case hr => first | (go_simp; done) | (go_simp; rfl))
              intro gb279 hg w55 hbox hb
              have RD_ := Kd.R_below (by repeat (first | exact hHeld.2.2 | (with_reducible refine Kd.R_alloc ?_ _) | (with_reducible refine Kd.R_drewN ?_ _) | (with_reducible refine Kd.R_drew ?_))) hb
              have n0_ := Aside0.mk (Kd.R_below (by (with_reducible repeat (first | apply Kd.R_alloc | apply Kd.R_drewN | apply Kd.R_drew)); exact HO264.out) hb)
              have n1_ := Aside0.mk (Kd.N_below (Kd.N_elderB (by (with_reducible repeat (first | apply Kd.N_alloc | apply Kd.N_drewN | apply Kd.N_drew)); exact HO267.out) gb279 (Nat.le_of_eq hg.symm)) hb)
              have n2_ := Aside0.mk (blk_below (g := gb261) (o := .cells #[.int .i64 t256, .slice Ao36 t257.length co36] 27 (0, 0)) (by (with_reducible repeat (first | refine blk_drewN ?_ _ | refine blk_drew ?_ | refine blk_alloc ?_ _)); exact BK261.out) hb)
              have n3_ := Aside0.mk (below_step (by repeat (first | (with_reducible first | exact HB.out | apply below_alloc | apply pw_below_drewN | apply below_drew1 | refine below_set ?_ GE261.out) | exact HB.out)) hb)
              have n4_ := Aside0.mk (hbox)
              have n5_ := Aside0.mk ((by rw [hg]; exact (below_size (by repeat (first | (with_reducible first | exact HB.out | apply below_alloc | apply pw_below_drewN | apply below_drew1 | refine below_set ?_ GE261.out) | exact HB.out))) : w.heap.size ≤ gb279))
              have n6_ := Aside0.mk ((by rw [hg]; exact (below_size (by repeat (first | (with_reducible first | exact HB.out | apply below_alloc | apply pw_below_drewN | apply below_drew1 | refine below_set ?_ GE261.out) | exact HB.out))) : w.heap.size ≤ gb279))
              have n7_ := Aside0.mk ((by rw [hg]; exact Nat.ne_of_lt (blk_lt (g := gb261) (o := .cells #[.int .i64 t256, .slice Ao36 t257.length co36] 27 (0, 0)) (by (with_reducible repeat (first | refine blk_drewN ?_ _ | refine blk_drew ?_ | refine blk_alloc ?_ _)); exact BK261.out)) : gb261 ≠ gb279))
              have n8_ := Aside0.mk ((by rw [hg]; exact Nat.ne_of_gt (blk_lt (g := gb261) (o := .cells #[.int .i64 t256, .slice Ao36 t257.length co36] 27 (0, 0)) (by (with_reducible repeat (first | refine blk_drewN ?_ _ | refine blk_drew ?_ | refine blk_alloc ?_ _)); exact BK261.out)) : gb279 ≠ gb261))
              clear HO264
              clear HO267
              clear BK261
              clear HB
              have HO264 := n0_
              have HO267 := n1_
              have BK261 := n2_
              have HB := n3_
              have BK279 := n4_
              have GW279 := n5_
              have GE279 := n6_
              have NB261_279 := n7_
              have NB279_261 := n8_
              clear n0_ n1_ n2_ n3_ n4_ n5_ n6_ n7_ n8_
              clear hb hbox hg
              refine hK.out _ _ ⟨(blk_cell BK261.out 0).trans rfl, (blk_cell BK261.out 1).trans rfl, RD_⟩ (fun hHeld => ?_)
              clear hK K
              refine norm_ (a' := ?_) ?_ ?_
              rotate_left
              ·
               show Act.put _ (some 18) _ = _
               simp only [Act.put, List.setIfInBounds_toArray, List.set_cons_zero, List.set_cons_succ, i64_w, i32_w]
               rfl
              exact norm_ (by first | (simp only [putAll, Act.put, List.setIfInBounds_toArray, List.set_cons_zero, List.set_cons_succ]; done) | (simp only [putAll, Act.put, List.setIfInBounds_toArray, List.set_cons_zero, List.set_cons_succ]; rfl)) (hJ0_3_5_10 (.slice Ao54 y262.length co54, .slice Ao55 y265.length co55, gb279) _ ⟨hHeld, (by (with_reducible repeat (first | apply Kd.R_alloc | apply Kd.R_drewN | apply Kd.R_drew)); exact HO264.out), (by (with_reducible repeat (first | apply Kd.N_alloc | apply Kd.N_drewN | apply Kd.N_drew)); exact Kd.N_mono HO267.out (fun _ hk => ⟨hk.1.1, ⟨hk.1.2, hk.2⟩⟩)), (by (with_reducible repeat (first | refine blk_drewN ?_ _ | refine blk_drew ?_ | refine blk_alloc ?_ _)); exact BK261.out), (by (with_reducible repeat (first | refine blk_drewN ?_ _ | refine blk_drew ?_ | refine blk_alloc ?_ _)); exact BK279.out), GW279.out, GE279.out, NB261_279.out, NB279_261.out, (by repeat (first | (with_reducible first | exact HB.out | apply below_alloc | apply pw_below_drewN | apply below_drew1 | refine below_set ?_ GE261.out | refine below_set ?_ GE279.out) | exact HB.out))⟩)
           ·
            skip
            rintro ⟨v263, v266, gb279⟩ w54 ⟨hS_, h0_, h1_, h2_, h3_, h4_, h5_, h6_, h7_, h8_⟩
            have n0_ : Aside0 (Kd.R (Kd.int .i64) 3 w54 w.heap.size (fun _ => True) v263 y262) := ⟨h0_⟩
            have n1_ : Aside0 (Kd.N k27 27 w54 w.heap.size (fun k_ => some k_ ≠ (v263 : Value).ownBlock ∧ k_ ≠ gb261 ∧ k_ ≠ gb279) v266 y265) := ⟨h1_⟩
            have n2_ : Aside0 (w54.heap[gb261]? = some (.cells #[.int .i64 t256, .slice Ao36 t257.length co36] 27 (0, 0))) := ⟨h2_⟩
            have n3_ : Aside0 (w54.heap[gb279]? = some (.cells #[.int .i64 0, .slice none 0 0] 27 (0, 0))) := ⟨h3_⟩
            have n4_ : Aside0 (w.heap.size ≤ gb279) := ⟨h4_⟩
            have n5_ : Aside0 (w.heap.size ≤ gb279) := ⟨h5_⟩
            have n6_ : Aside0 (gb261 ≠ gb279) := ⟨h6_⟩
            have n7_ : Aside0 (gb279 ≠ gb261) := ⟨h7_⟩
            have n8_ : Aside0 (Below w.heap.size w w54) := ⟨h8_⟩
            clear HO_262001
            clear BK261
            clear HB
            clear h0_ h1_ h2_ h3_ h4_ h5_ h6_ h7_ h8_
            have HO264 := n0_
            have HO267 := n1_
            have BK261 := n2_
            have BK279 := n3_
            have GW279 := n4_
            have GE279 := n5_
            have NB261_279 := n6_
            have NB279_261 := n7_
            have HB := n8_
            clear n0_ n1_ n2_ n3_ n4_ n5_ n6_ n7_ n8_
            have hHeld : w54.cell? ⟨gb261, 0, none⟩ = some (.int .i64 t256) ∧ w54.cell? ⟨gb261, 1, none⟩ = some (.slice Ao36 t257.length co36) ∧ Kd.R (Kd.int .i64) 3 w54 w.heap.size (fun _ => True) (.slice Ao36 t257.length co36) t257 := hS_
            obtain ⟨Ao55, co55, eo55⟩ := Kd.R_slice HO264.out
            (first | subst eo55 | (injection eo55 with f1_ f2_ f3_; have f4_ := f1_.symm; have f5_ := f3_.symm; clear f1_ f2_ f3_; subst f4_; subst f5_))
            obtain ⟨Ao56, co56, eo56⟩ := Kd.N_slice HO267.out
            (first | subst eo56 | (injection eo56 with f1_ f2_ f3_; have f4_ := f1_.symm; have f5_ := f3_.symm; clear f1_ f2_ f3_; subst f4_; subst f5_))
            refine norm_ (a' := ?_) ?_ ?_
            rotate_left
            ·
             simp only [putAll, Act.put, List.setIfInBounds_toArray, List.set_cons_zero, List.set_cons_succ]
             rfl
            refine one_ (i := 6) (N := some 76) #[true, true, true, true, true, true, true, false, false, false, true, false, false] rfl rfl (one_of HT_.out (by kernel_rfl)) (by decide) (fun K hK => ?_)
            refine goes_ Try.func22 (by kernel_rfl) rfl #[.agg #[.int .i64 11, .slice Ao55 y262.length co55], .slice Ao56 y265.length co56, .agg #[.int .i64 t268, .int .i64 t269, .int .i64 t270, .int .i64 t271, .int .i64 t272, .int .i64 t273]] (by rfl) rfl rfl (by (try simp only [List.map_toArray, List.map_cons, List.map_nil]); first | done | rfl | (simp only [List.length_drop, List.length_take]; rfl)) ?_
            with_reducible refine (act_Do.calls kj14 11 _ _ y262 _ _ y265 t268 t269 t270 t271 t272 t273 t274 t275 true _ ?side1 ?side2 ?side3 ?side4 A40.out).mono ?_
            (case side1 => repeat (first | exact (Kd.R_reads' HO264.out).2.2 | (with_reducible refine Kd.C_alloc ?_ _) | (with_reducible refine Kd.C_drewN ?_ _) | (with_reducible refine Kd.C_drew ?_)))
            (case side2 => exact (Kd.R_reads' HO264.out).2.1)
            (case side3 => repeat (first | exact (Kd.N_reads' HO267.out).2.2 | (with_reducible refine Kd.C_alloc ?_ _) | (with_reducible refine Kd.C_drewN ?_ _) | (with_reducible refine Kd.C_drew ?_)))
            (case side4 => exact (Kd.N_reads' HO267.out).2.1)
            rintro e w57 ⟨v276, rfl, ho0, hb⟩
            have RD_ := Kd.R_below (by repeat (first | exact hHeld.2.2 | (with_reducible refine Kd.R_alloc ?_ _) | (with_reducible refine Kd.R_drewN ?_ _) | (with_reducible refine Kd.R_drew ?_))) hb
            refine ⟨_, rfl, ?_⟩
            have n0_ := Aside0.mk (Kd.R_elder' (by (with_reducible repeat (first | apply Kd.R_alloc | apply Kd.R_drewN | apply Kd.R_drew)); exact HO264.out) (Kd.R_base ho0) hb)
            have n1_ := Aside0.mk (Kd.N_elder' (by (with_reducible repeat (first | apply Kd.N_alloc | apply Kd.N_drewN | apply Kd.N_drew)); exact HO267.out) (Kd.R_base ho0) hb)
            have n2_ := Aside0.mk (Kd.R_lower (Kd.R_new' ho0 (Kd.R_lt (by (with_reducible repeat (first | apply Kd.R_alloc | apply Kd.R_drewN | apply Kd.R_drew)); exact HO264.out))) (below_size (by repeat (first | (with_reducible first | exact HB.out | apply below_alloc | apply pw_below_drewN | apply below_drew1 | refine below_set ?_ GE261.out | refine below_set ?_ GE279.out) | exact HB.out))))
            have n3_ := Aside0.mk (blk_below (g := gb261) (o := .cells #[.int .i64 t256, .slice Ao36 t257.length co36] 27 (0, 0)) (by (with_reducible repeat (first | refine blk_drewN ?_ _ | refine blk_drew ?_ | refine blk_alloc ?_ _)); exact BK261.out) hb)
            have n4_ := Aside0.mk (blk_below (g := gb279) (o := .cells #[.int .i64 0, .slice none 0 0] 27 (0, 0)) (by (with_reducible repeat (first | refine blk_drewN ?_ _ | refine blk_drew ?_ | refine blk_alloc ?_ _)); exact BK279.out) hb)
            have n5_ := Aside0.mk (below_step (by repeat (first | (with_reducible first | exact HB.out | apply below_alloc | apply pw_below_drewN | apply below_drew1 | refine below_set ?_ GE261.out | refine below_set ?_ GE279.out) | exact HB.out)) hb)
            clear HO264
            clear HO267
            clear BK261
            clear BK279
            clear HB
            have HO264 := n0_
            have HO267 := n1_
            have HO277 := n2_
            have BK261 := n3_
            have BK279 := n4_
            have HB := n5_
            clear n0_ n1_ n2_ n3_ n4_ n5_
            (try clear hb)
            (try clear hb2)
            (try clear hk)
            (try clear hi)
            (try clear ho0)
            refine hK.out _ _ ⟨(blk_cell BK261.out 0).trans rfl, (blk_cell BK261.out 1).trans rfl, RD_⟩ (fun hHeld => ?_)
            clear hK K
            refine norm_ (a' := ?_) ?_ ?_
            rotate_left
            ·
             show Act.put _ (some 76) _ = _
             simp only [Act.put, List.setIfInBounds_toArray, List.set_cons_zero, List.set_cons_succ, i64_w, i32_w]
             rfl
            refine pure_ (i := 7) (N := some 69) (v := ?_) (a' := ?_) #[true, true, true, true, true, true, true, true, false, false, true, false, false] rfl rfl (any_of HT_.out (by kernel_rfl)) (fun _ _ _ h => h) (Or.inl ⟨by rfl, ?_⟩) ?_ ?_
            rotate_left
            ·
             intro w'
             go_simp
             with_reducible rfl
            rotate_left
            ·
             simp only [Act.put, List.setIfInBounds_toArray, List.set_cons_zero, List.set_cons_succ, i64_w, i32_w]
             rfl
            refine pure_ (i := 8) (N := some 77) (v := ?_) (a' := ?_) #[true, true, true, true, true, true, true, true, true, false, true, false, false] rfl rfl (any_of HT_.out (by kernel_rfl)) (fun _ _ _ h => h) (Or.inl ⟨by rfl, ?_⟩) ?_ ?_
            rotate_left
            ·
             intro w'
             go_simp
             with_reducible rfl
            rotate_left
            ·
             simp only [Act.put, List.setIfInBounds_toArray, List.set_cons_zero, List.set_cons_succ, i64_w, i32_w]
             rfl
            refine pure_ (i := 9) (N := some 78) (v := ?_) (a' := ?_) #[true, true, true, true, true, true, true, true, true, true, true, false, false] rfl rfl (any_of HT_.out (by kernel_rfl)) (fun _ _ _ h => h) (Or.inl ⟨by rfl, ?_⟩) ?_ ?_
            rotate_left
            ·
             intro w'
             go_simp
             with_reducible rfl
            rotate_left
            ·
             simp only [Act.put, List.setIfInBounds_toArray, List.set_cons_zero, List.set_cons_succ, i64_w, i32_w]
             rfl
            exact norm_ (by first | (simp only [putAll, Act.put, List.setIfInBounds_toArray, List.set_cons_zero, List.set_cons_succ]; done) | (simp only [putAll, Act.put, List.setIfInBounds_toArray, List.set_cons_zero, List.set_cons_succ]; rfl)) (hJ0_3_5_6_10 (.slice Ao55 y262.length co55, .slice Ao56 y265.length co56, v276, gb279) _ ⟨hHeld, (by (with_reducible repeat (first | apply Kd.R_alloc | apply Kd.R_drewN | apply Kd.R_drew)); exact Kd.R_mono HO264.out (fun _ hk => hk.2)), (by (with_reducible repeat (first | apply Kd.N_alloc | apply Kd.N_drewN | apply Kd.N_drew)); exact Kd.N_mono HO267.out (fun _ hk => ⟨hk.1.1, ⟨hk.2, ⟨hk.1.2.1, hk.1.2.2⟩⟩⟩)), (by (with_reducible repeat (first | apply Kd.R_alloc | apply Kd.R_drewN | apply Kd.R_drew)); exact Kd.R_mono HO277.out (fun _ hk => hk.2)), (by (with_reducible repeat (first | refine blk_drewN ?_ _ | refine blk_drew ?_ | refine blk_alloc ?_ _)); exact BK261.out), (by (with_reducible repeat (first | refine blk_drewN ?_ _ | refine blk_drew ?_ | refine blk_alloc ?_ _)); exact BK279.out), GW279.out, GE279.out, NB261_279.out, NB279_261.out, (by repeat (first | (with_reducible first | exact HB.out | apply below_alloc | apply pw_below_drewN | apply below_drew1 | refine below_set ?_ GE261.out | refine below_set ?_ GE279.out) | exact HB.out))⟩)
          ·
           skip
           rintro ⟨v263, v266, v276⟩ w55 ⟨hS_, h0_, h1_, h2_, h3_, h4_⟩
           have n0_ : Aside0 (Kd.R (Kd.int .i64) 3 w55 w.heap.size (fun k_ => some k_ ≠ (v276 : Value).ownBlock) v263 y262) := ⟨h0_⟩
           have n1_ : Aside0 (Kd.N k27 27 w55 w.heap.size (fun k_ => some k_ ≠ (v263 : Value).ownBlock ∧ some k_ ≠ (v276 : Value).ownBlock ∧ k_ ≠ gb261) v266 y265) := ⟨h1_⟩
           have n2_ : Aside0 (Kd.R (Kd.int .i64) 3 w55 w.heap.size (fun k_ => some k_ ≠ (v263 : Value).ownBlock) v276 t275) := ⟨h2_⟩
           have n3_ : Aside0 (w55.heap[gb261]? = some (.cells #[.int .i64 t256, .slice Ao36 t257.length co36] 27 (0, 0))) := ⟨h3_⟩
           have n4_ : Aside0 (Below w.heap.size w w55) := ⟨h4_⟩
           clear HO_262001
           clear BK261
           clear HB
           clear h0_ h1_ h2_ h3_ h4_
           have HO264 := n0_
           have HO267 := n1_
           have HO277 := n2_
           have BK261 := n3_
           have HB := n4_
           clear n0_ n1_ n2_ n3_ n4_
           have hHeld : w55.cell? ⟨gb261, 0, none⟩ = some (.int .i64 t256) ∧ w55.cell? ⟨gb261, 1, none⟩ = some (.slice Ao36 t257.length co36) ∧ Kd.R (Kd.int .i64) 3 w55 w.heap.size (fun _ => True) (.slice Ao36 t257.length co36) t257 := hS_
           obtain ⟨Ao56, co56, eo56⟩ := Kd.R_slice HO264.out
           (first | subst eo56 | (injection eo56 with f1_ f2_ f3_; have f4_ := f1_.symm; have f5_ := f3_.symm; clear f1_ f2_ f3_; subst f4_; subst f5_))
           refine norm_ (a' := ?_) ?_ ?_
           rotate_left
           ·
            simp only [putAll, Act.put, List.setIfInBounds_toArray, List.set_cons_zero, List.set_cons_succ]
            rfl
           refine one_ (i := 10) (N := some 18) #[true, true, true, true, true, true, true, true, true, true, true, false, false] rfl rfl (one_of HT_.out (by kernel_rfl)) (by decide) (fun K hK => ?_)
           refine box_step ?hg (N := 18) ?hd (cs := #[.int .i64 0, .slice none 0 0]) (t := 27) ?hr ?_; (case hd => rfl); (case hg => rfl); (case hr => first | (go_simp; done) | (go_simp; rfl))
           intro gb279 hg w57 hbox hb
           have RD_ := Kd.R_below (by repeat (first | exact hHeld.2.2 | (with_reducible refine Kd.R_alloc ?_ _) | (with_reducible refine Kd.R_drewN ?_ _) | (with_reducible refine Kd.R_drew ?_))) hb
           have n0_ := Aside0.mk (Kd.R_below (by (with_reducible repeat (first | apply Kd.R_alloc | apply Kd.R_drewN | apply Kd.R_drew)); exact HO264.out) hb)
           have n1_ := Aside0.mk (Kd.N_below (Kd.N_elderB (by (with_reducible repeat (first | apply Kd.N_alloc | apply Kd.N_drewN | apply Kd.N_drew)); exact HO267.out) gb279 (Nat.le_of_eq hg.symm)) hb)
           have n2_ := Aside0.mk (Kd.R_below (by (with_reducible repeat (first | apply Kd.R_alloc | apply Kd.R_drewN | apply Kd.R_drew)); exact HO277.out) hb)
           have n3_ := Aside0.mk (blk_below (g := gb261) (o := .cells #[.int .i64 t256, .slice Ao36 t257.length co36] 27 (0, 0)) (by (with_reducible repeat (first | refine blk_drewN ?_ _ | refine blk_drew ?_ | refine blk_alloc ?_ _)); exact BK261.out) hb)
           have n4_ := Aside0.mk (below_step (by repeat (first | (with_reducible first | exact HB.out | apply below_alloc | apply pw_below_drewN | apply below_drew1 | refine below_set ?_ GE261.out) | exact HB.out)) hb)
           have n5_ := Aside0.mk (hbox)
           have n6_ := Aside0.mk ((by rw [hg]; exact (below_size (by repeat (first | (with_reducible first | exact HB.out | apply below_alloc | apply pw_below_drewN | apply below_drew1 | refine below_set ?_ GE261.out) | exact HB.out))) : w.heap.size ≤ gb279))
           have n7_ := Aside0.mk ((by rw [hg]; exact (below_size (by repeat (first | (with_reducible first | exact HB.out | apply below_alloc | apply pw_below_drewN | apply below_drew1 | refine below_set ?_ GE261.out) | exact HB.out))) : w.heap.size ≤ gb279))
           have n8_ := Aside0.mk ((by rw [hg]; exact Nat.ne_of_lt (blk_lt (g := gb261) (o := .cells #[.int .i64 t256, .slice Ao36 t257.length co36] 27 (0, 0)) (by (with_reducible repeat (first | refine blk_drewN ?_ _ | refine blk_drew ?_ | refine blk_alloc ?_ _)); exact BK261.out)) : gb261 ≠ gb279))
           have n9_ := Aside0.mk ((by rw [hg]; exact Nat.ne_of_gt (blk_lt (g := gb261) (o := .cells #[.int .i64 t256, .slice Ao36 t257.length co36] 27 (0, 0)) (by (with_reducible repeat (first | refine blk_drewN ?_ _ | refine blk_drew ?_ | refine blk_alloc ?_ _)); exact BK261.out)) : gb279 ≠ gb261))
           clear HO264
           clear HO267
           clear HO277
           clear BK261
           clear HB
           have HO264 := n0_
           have HO267 := n1_
           have HO277 := n2_
           have BK261 := n3_
           have HB := n4_
           have BK279 := n5_
           have GW279 := n6_
           have GE279 := n7_
           have NB261_279 := n8_
           have NB279_261 := n9_
           clear n0_ n1_ n2_ n3_ n4_ n5_ n6_ n7_ n8_ n9_
           clear hb hbox hg
           refine hK.out _ _ ⟨(blk_cell BK261.out 0).trans rfl, (blk_cell BK261.out 1).trans rfl, RD_⟩ (fun hHeld => ?_)
           clear hK K
           refine norm_ (a' := ?_) ?_ ?_
           rotate_left
           ·
            show Act.put _ (some 18) _ = _
            simp only [Act.put, List.setIfInBounds_toArray, List.set_cons_zero, List.set_cons_succ, i64_w, i32_w]
            rfl
           exact norm_ (by first | (simp only [putAll, Act.put, List.setIfInBounds_toArray, List.set_cons_zero, List.set_cons_succ]; done) | (simp only [putAll, Act.put, List.setIfInBounds_toArray, List.set_cons_zero, List.set_cons_succ]; rfl)) (hJ0_3_5_6_10 (.slice Ao56 y262.length co56, v266, v276, gb279) _ ⟨hHeld, (by (with_reducible repeat (first | apply Kd.R_alloc | apply Kd.R_drewN | apply Kd.R_drew)); exact HO264.out), (by (with_reducible repeat (first | apply Kd.N_alloc | apply Kd.N_drewN | apply Kd.N_drew)); exact Kd.N_mono HO267.out (fun _ hk => ⟨hk.1.1, ⟨hk.1.2.1, ⟨hk.1.2.2, hk.2⟩⟩⟩)), (by (with_reducible repeat (first | apply Kd.R_alloc | apply Kd.R_drewN | apply Kd.R_drew)); exact HO277.out), (by (with_reducible repeat (first | refine blk_drewN ?_ _ | refine blk_drew ?_ | refine blk_alloc ?_ _)); exact BK261.out), (by (with_reducible repeat (first | refine blk_drewN ?_ _ | refine blk_drew ?_ | refine blk_alloc ?_ _)); exact BK279.out), GW279.out, GE279.out, NB261_279.out, NB279_261.out, (by repeat (first | (with_reducible first | exact HB.out | apply below_alloc | apply pw_below_drewN | apply below_drew1 | refine below_set ?_ GE261.out | refine below_set ?_ GE279.out) | exact HB.out))⟩)
         rintro ⟨v263, v266, v276, gb279⟩ w56 ⟨hS_, h0_, h1_, h2_, h3_, h4_, h5_, h6_, h7_, h8_, h9_⟩
         have n0_ : Aside0 (Kd.R (Kd.int .i64) 3 w56 w.heap.size (fun k_ => some k_ ≠ (v276 : Value).ownBlock) v263 y262) := ⟨h0_⟩
         have n1_ : Aside0 (Kd.N k27 27 w56 w.heap.size (fun k_ => some k_ ≠ (v263 : Value).ownBlock ∧ some k_ ≠ (v276 : Value).ownBlock ∧ k_ ≠ gb261 ∧ k_ ≠ gb279) v266 y265) := ⟨h1_⟩
         have n2_ : Aside0 (Kd.R (Kd.int .i64) 3 w56 w.heap.size (fun k_ => some k_ ≠ (v263 : Value).ownBlock) v276 t275) := ⟨h2_⟩
         have n3_ : Aside0 (w56.heap[gb261]? = some (.cells #[.int .i64 t256, .slice Ao36 t257.length co36] 27 (0, 0))) := ⟨h3_⟩
         have n4_ : Aside0 (w56.heap[gb279]? = some (.cells #[.int .i64 0, .slice none 0 0] 27 (0, 0))) := ⟨h4_⟩
         have n5_ : Aside0 (w.heap.size ≤ gb279) := ⟨h5_⟩
         have n6_ : Aside0 (w.heap.size ≤ gb279) := ⟨h6_⟩
         have n7_ : Aside0 (gb261 ≠ gb279) := ⟨h7_⟩
         have n8_ : Aside0 (gb279 ≠ gb261) := ⟨h8_⟩
         have n9_ : Aside0 (Below w.heap.size w w56) := ⟨h9_⟩
         clear HO_262001
         clear BK261
         clear HB
         clear h0_ h1_ h2_ h3_ h4_ h5_ h6_ h7_ h8_ h9_
         have HO264 := n0_
         have HO267 := n1_
         have HO277 := n2_
         have BK261 := n3_
         have BK279 := n4_
         have GW279 := n5_
         have GE279 := n6_
         have NB261_279 := n7_
         have NB279_261 := n8_
         have HB := n9_
         clear n0_ n1_ n2_ n3_ n4_ n5_ n6_ n7_ n8_ n9_
         have hHeld : w56.cell? ⟨gb261, 0, none⟩ = some (.int .i64 t256) ∧ w56.cell? ⟨gb261, 1, none⟩ = some (.slice Ao36 t257.length co36) ∧ Kd.R (Kd.int .i64) 3 w56 w.heap.size (fun _ => True) (.slice Ao36 t257.length co36) t257 := hS_
         obtain ⟨Ao57, co57, eo57⟩ := Kd.R_slice HO264.out
         (first | subst eo57 | (injection eo57 with f1_ f2_ f3_; have f4_ := f1_.symm; have f5_ := f3_.symm; clear f1_ f2_ f3_; subst f4_; subst f5_))
         obtain ⟨Ao59, co59, eo59⟩ := Kd.R_slice HO277.out
         (first | subst eo59 | (injection eo59 with f1_ f2_ f3_; have f4_ := f1_.symm; have f5_ := f3_.symm; clear f1_ f2_ f3_; subst f4_; subst f5_))
         refine norm_ (a' := ?_) ?_ ?_
         rotate_left
         ·
          simp only [putAll, Act.put, List.setIfInBounds_toArray, List.set_cons_zero, List.set_cons_succ]
          rfl
         refine one_ (i := 11) (N := none) #[true, true, true, true, true, true, true, true, true, true, true, true, false] rfl rfl (one_of HT_.out (by kernel_rfl)) (by decide) (fun K hK => ?_)
         have hs58 : w56.cell? ⟨gb279, 0, none⟩ = some (.int .i64 0) := (blk_cell BK279.out 0).trans rfl
         have hfs58 := blk_frozen BK279.out 0
         have hns58_0 := NB261_279.out
         have hms58_0 := NB279_261.out
         have hs60 : w56.cell? ⟨gb279, 1, none⟩ = some (.slice none 0 0) := (blk_cell BK279.out 1).trans rfl
         have hfs60 := blk_frozen BK279.out 1
         have hns60_0 := NB261_279.out
         have hms60_0 := NB279_261.out
         refine skip_ (w1 := ?_) (by rfl) rfl ?_ ?_
         rotate_left
         ·
          go_simp
          rfl
         refine hK.out _ _ ⟨((cell_far (p := ⟨gb279, _, none⟩) NB261_279.out _).trans (((cell_far (p := ⟨gb279, _, none⟩) NB261_279.out _).trans (hHeld.1)))), ((cell_far (p := ⟨gb279, _, none⟩) NB261_279.out _).trans (((cell_far (p := ⟨gb279, _, none⟩) NB261_279.out _).trans (hHeld.2.1)))), Kd.R_mono (Kd.R_far (p := ⟨gb279, _, none⟩) (Kd.R_far (p := ⟨gb279, _, none⟩) (Kd.R_types hHeld.2.2 BK279.out (by decide)) (fun _ hk => hk.2) _) (fun _ hk => hk.2) _) (fun _ _ => trivial)⟩ (fun hHeld => ?_)
         clear hK K
         refine pure_ (i := 12) (N := some 19) (v := ?_) (a' := ?_) #[true, true, true, true, true, true, true, true, true, true, true, true, true] rfl rfl (any_of HT_.out (by kernel_rfl)) (fun _ _ _ h => h) (Or.inl ⟨by rfl, ?_⟩) ?_ ?_
         rotate_left
         ·
          intro w'
          go_simp
          with_reducible rfl
         rotate_left
         ·
          simp only [Act.put, List.setIfInBounds_toArray, List.set_cons_zero, List.set_cons_succ, i64_w, i32_w]
          rfl
         refine done_ (done_of HT_.out (by kernel_rfl)) ?_
         have hnb61 := NB261_279.out
         have hnc61 := NB279_261.out
         have hcz62_0 : w56.cell? ⟨gb261, 0, none⟩ = some (.int .i64 t256) := (blk_cell BK261.out 0).trans rfl
         have hcz62_1 : w56.cell? ⟨gb261, 1, none⟩ = some (.slice Ao36 t257.length co36) := (blk_cell BK261.out 1).trans rfl
         have hfz62_0 := blk_frozen BK261.out 0
         have hfz62_1 := blk_frozen BK261.out 1
         try go_wp2_with (first | ((with_reducible refine gate_dst (N := 87) rfl ?_); (try (refine gate_guard (by rfl) ?_; dsimp only)); refine Kd.R_lit (Kd.int .i64) _ 3 ?hg (N := 87) ?hd (xs := ([x16_14, x17_14] : List Int)) (inner := [.int .i64 x16_14, .int .i64 x17_14]) (ok := fun _ => True) (okp := fun _ => True) ?hr ?hp (fun _ hk => hk) trivial (Below.refl _ _) (Nat.le_refl _) (by simp) ?_; (case hd => rfl); (case hg => rfl); (case hr => first | (go_simp; done) | (go_simp; rfl) | (go_simp; simp only [i64_w]; done) | (simp only [i64_w]; go_simp; done) | (go_simp; simp only [i64_w]; rfl)); (case hp => exact (Reps.one (show Kd.M (Kd.int .i64) _ _ _ x16_14 [.int .i64 x16_14] from rfl) (Reps.one (show Kd.M (Kd.int .i64) _ _ _ x17_14 [.int .i64 x17_14] from rfl) (Reps.none _ _)))); intro v281 w63 ho64 hb hg_ hnew_; have RD_ := Aside0.mk (Kd.R_below (by repeat (first | exact hHeld.2.2 | (with_reducible refine Kd.R_alloc ?_ _) | (with_reducible refine Kd.R_drewN ?_ _) | (with_reducible refine Kd.R_drew ?_))) hb); clear hg_ hnew_; (first | rw [← Ny280.out] at ho64 | (simp only [Int.reduceToNat] at ho64; rw [← Ny280.out] at ho64)); have n0_ := Aside0.mk (Kd.R_elder' (by (with_reducible repeat (first | apply Kd.R_alloc | apply Kd.R_drewN | apply Kd.R_drew)); exact (Kd.R_mono (Kd.R_far (p := ⟨gb279, 1, none⟩) (Kd.R_far (p := ⟨gb279, 0, none⟩) (Kd.R_types HO264.out BK279.out (by decide)) (fun _ hk => hk.2) (.int .i64 t274)) (fun _ hk => hk.2) (.slice Ao59 t275.length co59)) (fun _ h_ => h_.1))) (Kd.R_base ho64) hb); have n1_ := Aside0.mk (Kd.N_elder' (by (with_reducible repeat (first | apply Kd.N_alloc | apply Kd.N_drewN | apply Kd.N_drew)); exact (Kd.N_mono (Kd.N_far (p := ⟨gb279, 1, none⟩) (Kd.N_far (p := ⟨gb279, 0, none⟩) (Kd.N_mono HO267.out (fun k_ hk => (⟨hk, hk.2.2.2⟩ : _ ∧ k_ ≠ gb279))) (fun _ hk => hk.2) (.int .i64 t274)) (fun _ hk => hk.2) (.slice Ao59 t275.length co59)) (fun _ h_ => h_.1))) (Kd.R_base ho64) hb); have n2_ := Aside0.mk (Kd.R_elder' (by (with_reducible repeat (first | apply Kd.R_alloc | apply Kd.R_drewN | apply Kd.R_drew)); exact (Kd.R_mono (Kd.R_far (p := ⟨gb279, 1, none⟩) (Kd.R_far (p := ⟨gb279, 0, none⟩) (Kd.R_types HO277.out BK279.out (by decide)) (fun _ hk => hk.2) (.int .i64 t274)) (fun _ hk => hk.2) (.slice Ao59 t275.length co59)) (fun _ h_ => h_.1))) (Kd.R_base ho64) hb); have n3_ := Aside0.mk (Kd.R_lower (Kd.R_new' (Kd.R_new' ho64 (Kd.R_lt (by (with_reducible repeat (first | apply Kd.R_alloc | apply Kd.R_drewN | apply Kd.R_drew)); exact (Kd.R_mono (Kd.R_far (p := ⟨gb279, 1, none⟩) (Kd.R_far (p := ⟨gb279, 0, none⟩) (Kd.R_types HO264.out BK279.out (by decide)) (fun _ hk => hk.2) (.int .i64 t274)) (fun _ hk => hk.2) (.slice Ao59 t275.length co59)) (fun _ h_ => h_.1))))) (Kd.R_lt (by (with_reducible repeat (first | apply Kd.R_alloc | apply Kd.R_drewN | apply Kd.R_drew)); exact (Kd.R_mono (Kd.R_far (p := ⟨gb279, 1, none⟩) (Kd.R_far (p := ⟨gb279, 0, none⟩) (Kd.R_types HO277.out BK279.out (by decide)) (fun _ hk => hk.2) (.int .i64 t274)) (fun _ hk => hk.2) (.slice Ao59 t275.length co59)) (fun _ h_ => h_.1))))) (below_size (by repeat (first | (with_reducible first | exact HB.out | apply below_alloc | apply pw_below_drewN | apply below_drew1 | refine below_set ?_ GE261.out | refine below_set ?_ GE279.out) | exact HB.out)))); have n4_ := Aside0.mk (blk_below (g := gb261) (o := .cells #[.int .i64 t256, .slice Ao36 t257.length co36] 27 (0, 0)) (by (with_reducible repeat (first | refine blk_drewN ?_ _ | refine blk_drew ?_ | refine blk_alloc ?_ _)); refine blk_far ?_ NB261_279.out _; (with_reducible repeat (first | refine blk_drewN ?_ _ | refine blk_drew ?_ | refine blk_alloc ?_ _)); refine blk_far ?_ NB261_279.out _; (with_reducible repeat (first | refine blk_drewN ?_ _ | refine blk_drew ?_ | refine blk_alloc ?_ _)); exact BK261.out) hb); have n5_ := Aside0.mk (blk_below (g := gb279) (o := .cells #[.int .i64 t274, .slice Ao59 t275.length co59] 27 (0, 0)) (by (with_reducible repeat (first | refine blk_drewN ?_ _ | refine blk_drew ?_ | refine blk_alloc ?_ _)); refine blk_put (cs := #[.int .i64 t274, .slice none 0 0]) ?_ 1 _ rfl; (with_reducible repeat (first | refine blk_drewN ?_ _ | refine blk_drew ?_ | refine blk_alloc ?_ _)); refine blk_put (cs := #[.int .i64 0, .slice none 0 0]) ?_ 0 _ rfl; (with_reducible repeat (first | refine blk_drewN ?_ _ | refine blk_drew ?_ | refine blk_alloc ?_ _)); exact BK279.out) hb); have n6_ := Aside0.mk (below_step (by repeat (first | (with_reducible first | exact HB.out | apply below_alloc | apply pw_below_drewN | apply below_drew1 | refine below_set ?_ GE261.out | refine below_set ?_ GE279.out) | exact HB.out)) hb); clear HO264; clear HO267; clear HO277; clear BK261; clear BK279; clear HB; have HO264 := n0_; have HO267 := n1_; have HO277 := n2_; have HO282 := n3_; have BK261 := n4_; have BK279 := n5_; have HB := n6_; clear n0_ n1_ n2_ n3_ n4_ n5_ n6_; clear hb ho64; obtain ⟨Ao65, co65, eo65⟩ := Kd.R_slice HO282.out; subst eo65) | (go_at_call 24; (with_reducible refine (interlocutorref10_Cmp.calls kj14 t256 _ _ t257 7 _ _ y280 t283 _ ?side1 ?side2 ?side3 ?side4 A43.out).mono ?_); (case side1 => repeat (first | exact (Kd.R_reads' RD_.out).2.2 | (with_reducible refine Kd.C_alloc ?_ _) | (with_reducible refine Kd.C_drewN ?_ _) | (with_reducible refine Kd.C_drew ?_))); (case side2 => exact (Kd.R_reads' RD_.out).2.1); (case side3 => repeat (first | exact (Kd.R_reads' HO282.out).2.2 | (with_reducible refine Kd.C_alloc ?_ _) | (with_reducible refine Kd.C_drewN ?_ _) | (with_reducible refine Kd.C_drew ?_))); (case side4 => exact (Kd.R_reads' HO282.out).2.1); rintro e w66 ⟨rfl, hb⟩; have n0_ := Aside0.mk (Kd.R_below (by (with_reducible repeat (first | apply Kd.R_alloc | apply Kd.R_drewN | apply Kd.R_drew)); exact HO264.out) hb); have n1_ := Aside0.mk (Kd.N_below (by (with_reducible repeat (first | apply Kd.N_alloc | apply Kd.N_drewN | apply Kd.N_drew)); exact HO267.out) hb); have n2_ := Aside0.mk (Kd.R_below (by (with_reducible repeat (first | apply Kd.R_alloc | apply Kd.R_drewN | apply Kd.R_drew)); exact HO277.out) hb); have n3_ := Aside0.mk (Kd.R_below (by (with_reducible repeat (first | apply Kd.R_alloc | apply Kd.R_drewN | apply Kd.R_drew)); exact HO282.out) hb); have n4_ := Aside0.mk (blk_below (g := gb261) (o := .cells #[.int .i64 t256, .slice Ao36 t257.length co36] 27 (0, 0)) (by (with_reducible repeat (first | refine blk_drewN ?_ _ | refine blk_drew ?_ | refine blk_alloc ?_ _)); exact BK261.out) hb); have n5_ := Aside0.mk (blk_below (g := gb279) (o := .cells #[.int .i64 t274, .slice Ao59 t275.length co59] 27 (0, 0)) (by (with_reducible repeat (first | refine blk_drewN ?_ _ | refine blk_drew ?_ | refine blk_alloc ?_ _)); exact BK279.out) hb); have n6_ := Aside0.mk (below_step (by repeat (first | (with_reducible first | exact HB.out | apply below_alloc | apply pw_below_drewN | apply below_drew1 | refine below_set ?_ GE261.out | refine below_set ?_ GE279.out) | exact HB.out)) hb); clear HO264; clear HO267; clear HO277; clear HO282; clear BK261; clear BK279; clear HB; have HO264 := n0_; have HO267 := n1_; have HO277 := n2_; have HO282 := n3_; have BK261 := n4_; have BK279 := n5_; have HB := n6_; clear n0_ n1_ n2_ n3_ n4_ n5_ n6_; (try clear hb); (try clear hb2); (try clear hk); (try clear hi); have hcz67_0 : w66.cell? ⟨gb279, 0, none⟩ = some (.int .i64 t274) := (blk_cell BK279.out 0).trans rfl; have hcz67_1 : w66.cell? ⟨gb279, 1, none⟩ = some (.slice Ao59 t275.length co59) := (blk_cell BK279.out 1).trans rfl; have hfz67_0 := blk_frozen BK279.out 0; have hfz67_1 := blk_frozen BK279.out 1) | ((with_reducible refine gate_dst (N := 97) rfl ?_); (try (refine gate_guard (by rfl) ?_; dsimp only)); refine Kd.R_lit (Kd.int .i64) _ 3 ?hg (N := 97) ?hd (xs := ([wrap64 (-x16_14), x17_14] : List Int)) (inner := [.int .i64 (wrap64 (-x16_14)), .int .i64 x17_14]) (ok := fun _ => True) (okp := fun _ => True) ?hr ?hp (fun _ hk => hk) trivial (Below.refl _ _) (Nat.le_refl _) (by simp) ?_; (case hd => rfl); (case hg => rfl); (case hr => first | (go_simp; done) | (go_simp; rfl) | (go_simp; simp only [i64_w]; done) | (simp only [i64_w]; go_simp; done) | (go_simp; simp only [i64_w]; rfl)); (case hp => exact (Reps.one (show Kd.M (Kd.int .i64) _ _ _ (wrap64 (-x16_14)) [.int .i64 (wrap64 (-x16_14))] from rfl) (Reps.one (show Kd.M (Kd.int .i64) _ _ _ x17_14 [.int .i64 x17_14] from rfl) (Reps.none _ _)))); intro v285 w68 ho69 hb hg_ hnew_; clear hg_ hnew_; (first | rw [← Ny284.out] at ho69 | (simp only [Int.reduceToNat] at ho69; rw [← Ny284.out] at ho69)); have n0_ := Aside0.mk (Kd.R_elder' (by (with_reducible repeat (first | apply Kd.R_alloc | apply Kd.R_drewN | apply Kd.R_drew)); exact HO264.out) (Kd.R_base ho69) hb); have n1_ := Aside0.mk (Kd.N_elder' (by (with_reducible repeat (first | apply Kd.N_alloc | apply Kd.N_drewN | apply Kd.N_drew)); exact HO267.out) (Kd.R_base ho69) hb); have n2_ := Aside0.mk (Kd.R_elder' (by (with_reducible repeat (first | apply Kd.R_alloc | apply Kd.R_drewN | apply Kd.R_drew)); exact HO277.out) (Kd.R_base ho69) hb); have n3_ := Aside0.mk (Kd.R_elder' (by (with_reducible repeat (first | apply Kd.R_alloc | apply Kd.R_drewN | apply Kd.R_drew)); exact HO282.out) (Kd.R_base ho69) hb); have n4_ := Aside0.mk (Kd.R_lower (Kd.R_new' (Kd.R_new' (Kd.R_new' ho69 (Kd.R_lt (by (with_reducible repeat (first | apply Kd.R_alloc | apply Kd.R_drewN | apply Kd.R_drew)); exact HO264.out))) (Kd.R_lt (by (with_reducible repeat (first | apply Kd.R_alloc | apply Kd.R_drewN | apply Kd.R_drew)); exact HO277.out))) (Kd.R_lt (by (with_reducible repeat (first | apply Kd.R_alloc | apply Kd.R_drewN | apply Kd.R_drew)); exact HO282.out))) (below_size (by repeat (first | (with_reducible first | exact HB.out | apply below_alloc | apply pw_below_drewN | apply below_drew1 | refine below_set ?_ GE261.out | refine below_set ?_ GE279.out) | exact HB.out)))); have n5_ := Aside0.mk (blk_below (g := gb261) (o := .cells #[.int .i64 t256, .slice Ao36 t257.length co36] 27 (0, 0)) (by (with_reducible repeat (first | refine blk_drewN ?_ _ | refine blk_drew ?_ | refine blk_alloc ?_ _)); exact BK261.out) hb); have n6_ := Aside0.mk (blk_below (g := gb279) (o := .cells #[.int .i64 t274, .slice Ao59 t275.length co59] 27 (0, 0)) (by (with_reducible repeat (first | refine blk_drewN ?_ _ | refine blk_drew ?_ | refine blk_alloc ?_ _)); exact BK279.out) hb); have n7_ := Aside0.mk (below_step (by repeat (first | (with_reducible first | exact HB.out | apply below_alloc | apply pw_below_drewN | apply below_drew1 | refine below_set ?_ GE261.out | refine below_set ?_ GE279.out) | exact HB.out)) hb); clear HO264; clear HO267; clear HO277; clear HO282; clear BK261; clear BK279; clear HB; have HO264 := n0_; have HO267 := n1_; have HO277 := n2_; have HO282 := n3_; have HO286 := n4_; have BK261 := n5_; have BK279 := n6_; have HB := n7_; clear n0_ n1_ n2_ n3_ n4_ n5_ n6_ n7_; clear hb ho69; obtain ⟨Ao70, co70, eo70⟩ := Kd.R_slice HO286.out; subst eo70) | (go_at_call 24; (with_reducible refine (interlocutorref10_Cmp.calls kj14 t274 _ _ t275 7 _ _ y284 t287 _ ?side1 ?side2 ?side3 ?side4 A45.out).mono ?_); (case side1 => repeat (first | exact (Kd.R_reads' HO277.out).2.2 | (with_reducible refine Kd.C_alloc ?_ _) | (with_reducible refine Kd.C_drewN ?_ _) | (with_reducible refine Kd.C_drew ?_))); (case side2 => exact (Kd.R_reads' HO277.out).2.1); (case side3 => repeat (first | exact (Kd.R_reads' HO286.out).2.2 | (with_reducible refine Kd.C_alloc ?_ _) | (with_reducible refine Kd.C_drewN ?_ _) | (with_reducible refine Kd.C_drew ?_))); (case side4 => exact (Kd.R_reads' HO286.out).2.1); rintro e w71 ⟨rfl, hb⟩; have n0_ := Aside0.mk (Kd.R_below (by (with_reducible repeat (first | apply Kd.R_alloc | apply Kd.R_drewN | apply Kd.R_drew)); exact HO264.out) hb); have n1_ := Aside0.mk (Kd.N_below (by (with_reducible repeat (first | apply Kd.N_alloc | apply Kd.N_drewN | apply Kd.N_drew)); exact HO267.out) hb); have n2_ := Aside0.mk (Kd.R_below (by (with_reducible repeat (first | apply Kd.R_alloc | apply Kd.R_drewN | apply Kd.R_drew)); exact HO277.out) hb); have n3_ := Aside0.mk (Kd.R_below (by (with_reducible repeat (first | apply Kd.R_alloc | apply Kd.R_drewN | apply Kd.R_drew)); exact HO282.out) hb); have n4_ := Aside0.mk (Kd.R_below (by (with_reducible repeat (first | apply Kd.R_alloc | apply Kd.R_drewN | apply Kd.R_drew)); exact HO286.out) hb); have n5_ := Aside0.mk (blk_below (g := gb261) (o := .cells #[.int .i64 t256, .slice Ao36 t257.length co36] 27 (0, 0)) (by (with_reducible repeat (first | refine blk_drewN ?_ _ | refine blk_drew ?_ | refine blk_alloc ?_ _)); exact BK261.out) hb); have n6_ := Aside0.mk (blk_below (g := gb279) (o := .cells #[.int .i64 t274, .slice Ao59 t275.length co59] 27 (0, 0)) (by (with_reducible repeat (first | refine blk_drewN ?_ _ | refine blk_drew ?_ | refine blk_alloc ?_ _)); exact BK279.out) hb); have n7_ := Aside0.mk (below_step (by repeat (first | (with_reducible first | exact HB.out | apply below_alloc | apply pw_below_drewN | apply below_drew1 | refine below_set ?_ GE261.out | refine below_set ?_ GE279.out) | exact HB.out)) hb); clear HO264; clear HO267; clear HO277; clear HO282; clear HO286; clear BK261; clear BK279; clear HB; have HO264 := n0_; have HO267 := n1_; have HO277 := n2_; have HO282 := n3_; have HO286 := n4_; have BK261 := n5_; have BK279 := n6_; have HB := n7_; clear n0_ n1_ n2_ n3_ n4_ n5_ n6_ n7_; (try clear hb); (try clear hb2); (try clear hk); (try clear hi)))
         go_ret
         exact ⟨by first | rfl | (simp [errW_none, errW_some] <;> rfl) | (simp only [← hji8]; first | rfl | (simp [errW_none, errW_some] <;> rfl)) | (simp [*, errW_none, errW_some] <;> rfl), by repeat (first | (with_reducible first | exact HB.out | apply below_alloc | apply pw_below_drewN | apply below_drew1 | refine below_set ?_ GE261.out | refine below_set ?_ GE279.out) | exact HB.out)⟩
        ·
         rw [if_neg c44] at H
         have c44b0 : (t283 == 0) = false := beq_eq_false_iff_ne.mpr c44
         have c44b1 : (t283 != 0) = true := bne_iff_ne.mpr c44
         exact absurd ((Option.some.inj H).trans hr1) (by decide)
       ·
        replace c42 := Bool.eq_false_iff.mpr c42
        subst c42
        have H1 : (some false) = some r := by rw [if_neg (show ¬ (false = true) by decide)] at H; exact H
        clear H
        have H := H1
        clear H1
        exact absurd ((Option.some.inj H).trans hr1) (by decide)
      ·
       replace c41 := Bool.eq_false_iff.mpr c41
       subst c41
       have H1 : (some false) = some r := by rw [if_neg (show ¬ (false = true) by decide)] at H; exact H
       clear H
       have H := H1
       clear H1
       exact absurd ((Option.some.inj H).trans hr1) (by decide)
   ·
    rw [if_neg c10] at H
    exact absurd H (by simp)
  ·
   rw [if_neg c9] at H
   exact absurd H (by simp)
 ·
  replace c6 := Bool.eq_false_iff.mpr c6
  subst c6
  have H1 : (some false) = some r := by rw [if_neg (show ¬ (false = true) by decide)] at H; exact H
  clear H
  have H := H1
  clear H1
  exact absurd ((Option.some.inj H).trans hr1) (by decide)
/-- THE ONE PURE STATEMENT of interlocutorlaw8_ActPoints: yours. -/
def interlocutorlaw8_ActPoints.Pure : Prop := ∀ (a0 : Int) (a1 : Int) (a2 : Int) (a3 : Int), (Lit.int .i64 a0).wf = true → (Lit.int .i64 a1).wf = true → (Lit.int .i64 a2).wf = true → (Lit.int .i64 a3).wf = true → ∃ k, interlocutorlaw8_ActPoints.f k a0 a1 a2 a3 = some true
theorem interlocutorlaw8_ActPoints.walk (P : interlocutorlaw8_ActPoints.Pure) (a0 : Int) (a1 : Int) (a2 : Int) (a3 : Int) (w : World) (w0 : (Lit.int .i64 a0).wf = true) (w1 : (Lit.int .i64 a1).wf = true) (w2 : (Lit.int .i64 a2).wf = true) (w3 : (Lit.int .i64 a3).wf = true) :
  Calls Try.prog 16 #[.int .i64 a0, .int .i64 a1, .int .i64 a2, .int .i64 a3] w fun e w' => e = .returned (.bool true) ∧ Below w.heap.size w w' := by
 obtain ⟨k, h⟩ := P a0 a1 a2 a3 w0 w1 w2 w3
 refine (interlocutorlaw8_ActPoints.calls k a0 a1 a2 a3 true w h rfl).mono ?_
 rintro e w' ⟨rfl, hd⟩
 exact ⟨rfl, hd⟩

end Go.Proofs.Ytldfljlklfhjkaa.PPt
