/- Each call of a function that is printed here answers what its plain Lean function answers; written by a program of this session (wip/myprint.py) over the kit's print. Conditions: that the plain function answers. -/
import Derived.Test.YtbdabmegbhobiaaPCivx0
import Derived.Test.YtbdabmegbhobiaaPCivx1
import Derived.Test.YtbdabmegbhobiaaPCivx2
import Derived.Test.YtbdabmegbhobiaaPCivx6
import Derived.Test.YtbdabmegbhobiaaPCivx7
namespace Go.Proofs.Ytbdabmegbhobiaa.PCiv
open Go.RowKit Go.Proofs.YtbdabmegbhobiaaW.PrintWords Go.Proofs.YtbdabmegbhobiaaW.PrintLast Go.Proofs.YtbdabmegbhobiaaW.PrintMore
attribute [local go_sem] max2_int min2_int max_two min_two max_three min_three max_four min_four   -- for this text's walks alone
set_option linter.unusedVariables false
set_option linter.unusedSimpArgs false

/-! ### interlocutorlaw1_CivilRight: function 13 -/
def interlocutorlaw1_CivilRight.j0 : Nat → Int → Int → Int → Int → Int → Int → Int → Int → Int → Int → Int → Int → Option (Bool)
  | 0, _, _, _, _, _, _, _, _, _, _, _, _ => none
  | k + 1, x305000, x305001, x305002, x305003, x305004, x305005, x313000, x313001, x313002, x313003, x313004, x313005 => (civil_Right.f x313000 x313001 x313002 x313003 x313004 x313005).bind fun t345 => ((interlocutorref1_Right.f x313000 x313001 x313002 x313003 x313004 x313005).bind fun t346 => (if (t345 == t346) = true then ((civil_Right.f x305000 x305001 x305002 x305003 x305004 x305005).bind fun t347 => ((interlocutorref1_Right.f x305000 x305001 x305002 x305003 x305004 x305005).bind fun t348 => (some (t347 == t348)))) else (some false)))
def interlocutorlaw1_CivilRight.f (k : Nat) (a0_0 : Int) (a0_1 : Int) (a0_2 : Int) (a0_3 : Int) (a0_4 : Int) (a0_5 : Int) (a1 : Int) (a2 : Int) (a3 : Int) (a4 : Int) : Option (Bool) := (interlocutorlaw1_known.f).bind fun t305 => (if t305 = true then ((interlocutorlaw1_Day.f a1 false).bind fun bt306 => ((interlocutorlaw1_within.f a2 24).bind fun t309 => ((interlocutorlaw1_within.f (wrap64 (Int.tdiv a2 24)) 60).bind fun t310 => ((interlocutorlaw1_within.f (wrap64 (Int.tdiv a2 1440)) 60).bind fun t311 => ((civil_Right.f bt306.1 bt306.2.1 bt306.2.2 t309 t310 t311).bind fun t313 => (if t313 = true then ((interlocutorlaw1_within.f a3 6).bind fun t314 => (if t314 = 0 then ((some (([0, 1, 9999, 10000, a4] : List Int) : List Int)).bind fun y315 => ((interlocutorlaw1_within.f a4 5).bind fun t318 => (if 0 ≤ t318 then (if t318 < (y315.length : Int) then (interlocutorlaw1_CivilRight.j0 k a0_0 a0_1 a0_2 a0_3 a0_4 a0_5 (rd y315 t318) bt306.2.1 bt306.2.2 t309 t310 t311) else (none)) else (none)))) else (if t314 = 1 then ((some (([0, 1, 2, 12, 13, a4] : List Int) : List Int)).bind fun y320 => ((interlocutorlaw1_within.f a4 6).bind fun t323 => (if 0 ≤ t323 then (if t323 < (y320.length : Int) then (interlocutorlaw1_CivilRight.j0 k a0_0 a0_1 a0_2 a0_3 a0_4 a0_5 bt306.1 (rd y320 t323) bt306.2.2 t309 t310 t311) else (none)) else (none)))) else (if t314 = 2 then ((some (([0, 1, 28, 29, 30, 31, 32, a4] : List Int) : List Int)).bind fun y325 => ((interlocutorlaw1_within.f a4 8).bind fun t328 => (if 0 ≤ t328 then (if t328 < (y325.length : Int) then (interlocutorlaw1_CivilRight.j0 k a0_0 a0_1 a0_2 a0_3 a0_4 a0_5 bt306.1 bt306.2.1 (rd y325 t328) t309 t310 t311) else (none)) else (none)))) else (if t314 = 3 then ((some (([(-1), 0, 23, 24, a4] : List Int) : List Int)).bind fun y330 => ((interlocutorlaw1_within.f a4 5).bind fun t333 => (if 0 ≤ t333 then (if t333 < (y330.length : Int) then (interlocutorlaw1_CivilRight.j0 k a0_0 a0_1 a0_2 a0_3 a0_4 a0_5 bt306.1 bt306.2.1 bt306.2.2 (rd y330 t333) t310 t311) else (none)) else (none)))) else (if t314 = 4 then ((some (([(-1), 0, 59, 60, a4] : List Int) : List Int)).bind fun y335 => ((interlocutorlaw1_within.f a4 5).bind fun t338 => (if 0 ≤ t338 then (if t338 < (y335.length : Int) then (interlocutorlaw1_CivilRight.j0 k a0_0 a0_1 a0_2 a0_3 a0_4 a0_5 bt306.1 bt306.2.1 bt306.2.2 t309 (rd y335 t338) t311) else (none)) else (none)))) else (if t314 = 5 then ((some (([(-1), 0, 59, 60, a4] : List Int) : List Int)).bind fun y340 => ((interlocutorlaw1_within.f a4 5).bind fun t343 => (if 0 ≤ t343 then (if t343 < (y340.length : Int) then (interlocutorlaw1_CivilRight.j0 k a0_0 a0_1 a0_2 a0_3 a0_4 a0_5 bt306.1 bt306.2.1 bt306.2.2 t309 t310 (rd y340 t343)) else (none)) else (none)))) else (interlocutorlaw1_CivilRight.j0 k a0_0 a0_1 a0_2 a0_3 a0_4 a0_5 bt306.1 bt306.2.1 bt306.2.2 t309 t310 t311)))))))) else (some false))))))) else (some false))
theorem interlocutorlaw1_CivilRight.mono_l : ∀ k, (∀ y0 y1 y2 y3 y4 y5 y6 y7 y8 y9 y10 y11, LeO (interlocutorlaw1_CivilRight.j0 k y0 y1 y2 y3 y4 y5 y6 y7 y8 y9 y10 y11) (interlocutorlaw1_CivilRight.j0 (k + 1) y0 y1 y2 y3 y4 y5 y6 y7 y8 y9 y10 y11))
  | 0 => fun _ _ _ _ _ _ _ _ _ _ _ _ r h => by simp [interlocutorlaw1_CivilRight.j0] at h
  | k + 1 => by
    have ih0 := interlocutorlaw1_CivilRight.mono_l k
    · intro y0 y1 y2 y3 y4 y5 y6 y7 y8 y9 y10 y11
      unfold interlocutorlaw1_CivilRight.j0
      repeat' first
      | (with_reducible exact ih0 _ _ _ _ _ _ _ _ _ _ _ _)
      | (with_reducible exact LeO.refl _)
      | (with_reducible exact LeO.none _)
      | (with_reducible refine LeO.ite ?_ ?_)
      | (with_reducible refine LeO.bind ?_ (fun _ => ?_))
      | exact ih0 _ _ _ _ _ _ _ _ _ _ _ _
      | exact LeO.none _
      | refine LeO.ite ?_ ?_
      | refine LeO.bind ?_ (fun _ => ?_)
theorem interlocutorlaw1_CivilRight.mono : ∀ a0 a1 a2 a3 a4 a5 a6 a7 a8 a9 k, LeO (interlocutorlaw1_CivilRight.f k a0 a1 a2 a3 a4 a5 a6 a7 a8 a9) (interlocutorlaw1_CivilRight.f (k + 1) a0 a1 a2 a3 a4 a5 a6 a7 a8 a9) := by
  intro a0 a1 a2 a3 a4 a5 a6 a7 a8 a9 k
  have ih0 := interlocutorlaw1_CivilRight.mono_l k
  unfold interlocutorlaw1_CivilRight.f
  repeat' first
      | (with_reducible exact ih0 _ _ _ _ _ _ _ _ _ _ _ _)
      | (with_reducible exact LeO.refl _)
      | (with_reducible exact LeO.none _)
      | (with_reducible refine LeO.ite ?_ ?_)
      | (with_reducible refine LeO.bind ?_ (fun _ => ?_))
      | exact ih0 _ _ _ _ _ _ _ _ _ _ _ _
      | exact LeO.none _
      | refine LeO.ite ?_ ?_
      | refine LeO.bind ?_ (fun _ => ?_)
def interlocutorlaw1_CivilRight.T20 : Bool × List (List Nat × List Nat) := (true, [([], []), ([0], [0]), ([], []), ([2, 1], [2]), ([1, 3], [1, 3]), ([4, 3], [4]), ([5], [5]), ([6, 5, 5], [5, 6]), ([5], [5]), ([8, 7, 5], [5, 8]), ([7, 9, 5], [5, 7, 9]), ([5, 10], [5, 10]), ([11, 9, 0, 1, 2, 3, 4, 5, 6, 7, 8, 9, 10, 11], [11])])
def interlocutorlaw1_CivilRight.B20 : List Nat := [0, 1, 0, 7, 15, 31, 63, 127, 63, 511, 1023, 2047, 4095]
theorem interlocutorlaw1_CivilRight.tab20 : rtab .any (opsOf Try.f13 20) = interlocutorlaw1_CivilRight.T20 := by kernel_rfl
theorem interlocutorlaw1_CivilRight.bits20 : waitsOk interlocutorlaw1_CivilRight.T20.2 interlocutorlaw1_CivilRight.B20 = true := by kernel_rfl
set_option maxHeartbeats 8000000 in
set_option maxRecDepth 100000 in
theorem interlocutorlaw1_CivilRight.calls (k : Nat) (a0_0 : Int) (a0_1 : Int) (a0_2 : Int) (a0_3 : Int) (a0_4 : Int) (a0_5 : Int) (a1 : Int) (a2 : Int) (a3 : Int) (a4 : Int) (r : Bool) (w : World) (h : interlocutorlaw1_CivilRight.f k a0_0 a0_1 a0_2 a0_3 a0_4 a0_5 a1 a2 a3 a4 = some r) :
    Calls Try.prog 13 #[.agg #[.int .i64 a0_0, .int .i64 a0_1, .int .i64 a0_2, .int .i64 a0_3, .int .i64 a0_4, .int .i64 a0_5], .int .i64 a1, .int .i64 a2, .int .i64 a3, .int .i64 a4] w fun e w' => e = .returned (.bool r) ∧ Below w.heap.size w w' := by
  have hu36 := Try.underlying36
  have HB := Aside0.mk (Below.refl w.heap.size w)
  have H : ((interlocutorlaw1_known.f).bind fun t305 => (if t305 = true then ((interlocutorlaw1_Day.f a1 false).bind fun bt306 => ((interlocutorlaw1_within.f a2 24).bind fun t309 => ((interlocutorlaw1_within.f (wrap64 (Int.tdiv a2 24)) 60).bind fun t310 => ((interlocutorlaw1_within.f (wrap64 (Int.tdiv a2 1440)) 60).bind fun t311 => ((civil_Right.f bt306.1 bt306.2.1 bt306.2.2 t309 t310 t311).bind fun t313 => (if t313 = true then ((interlocutorlaw1_within.f a3 6).bind fun t314 => (if t314 = 0 then ((some (([0, 1, 9999, 10000, a4] : List Int) : List Int)).bind fun y315 => ((interlocutorlaw1_within.f a4 5).bind fun t318 => (if 0 ≤ t318 then (if t318 < (y315.length : Int) then (interlocutorlaw1_CivilRight.j0 k a0_0 a0_1 a0_2 a0_3 a0_4 a0_5 (rd y315 t318) bt306.2.1 bt306.2.2 t309 t310 t311) else (none)) else (none)))) else (if t314 = 1 then ((some (([0, 1, 2, 12, 13, a4] : List Int) : List Int)).bind fun y320 => ((interlocutorlaw1_within.f a4 6).bind fun t323 => (if 0 ≤ t323 then (if t323 < (y320.length : Int) then (interlocutorlaw1_CivilRight.j0 k a0_0 a0_1 a0_2 a0_3 a0_4 a0_5 bt306.1 (rd y320 t323) bt306.2.2 t309 t310 t311) else (none)) else (none)))) else (if t314 = 2 then ((some (([0, 1, 28, 29, 30, 31, 32, a4] : List Int) : List Int)).bind fun y325 => ((interlocutorlaw1_within.f a4 8).bind fun t328 => (if 0 ≤ t328 then (if t328 < (y325.length : Int) then (interlocutorlaw1_CivilRight.j0 k a0_0 a0_1 a0_2 a0_3 a0_4 a0_5 bt306.1 bt306.2.1 (rd y325 t328) t309 t310 t311) else (none)) else (none)))) else (if t314 = 3 then ((some (([(-1), 0, 23, 24, a4] : List Int) : List Int)).bind fun y330 => ((interlocutorlaw1_within.f a4 5).bind fun t333 => (if 0 ≤ t333 then (if t333 < (y330.length : Int) then (interlocutorlaw1_CivilRight.j0 k a0_0 a0_1 a0_2 a0_3 a0_4 a0_5 bt306.1 bt306.2.1 bt306.2.2 (rd y330 t333) t310 t311) else (none)) else (none)))) else (if t314 = 4 then ((some (([(-1), 0, 59, 60, a4] : List Int) : List Int)).bind fun y335 => ((interlocutorlaw1_within.f a4 5).bind fun t338 => (if 0 ≤ t338 then (if t338 < (y335.length : Int) then (interlocutorlaw1_CivilRight.j0 k a0_0 a0_1 a0_2 a0_3 a0_4 a0_5 bt306.1 bt306.2.1 bt306.2.2 t309 (rd y335 t338) t311) else (none)) else (none)))) else (if t314 = 5 then ((some (([(-1), 0, 59, 60, a4] : List Int) : List Int)).bind fun y340 => ((interlocutorlaw1_within.f a4 5).bind fun t343 => (if 0 ≤ t343 then (if t343 < (y340.length : Int) then (interlocutorlaw1_CivilRight.j0 k a0_0 a0_1 a0_2 a0_3 a0_4 a0_5 bt306.1 bt306.2.1 bt306.2.2 t309 t310 (rd y340 t343)) else (none)) else (none)))) else (interlocutorlaw1_CivilRight.j0 k a0_0 a0_1 a0_2 a0_3 a0_4 a0_5 bt306.1 bt306.2.1 bt306.2.2 t309 t310 t311)))))))) else (some false))))))) else (some false))) = some r := h
  clear h
  replace H := Option.bind_eq_some_iff.mp H
  obtain ⟨t305, A60, H⟩ := H
  replace H : (if t305 = true then ((interlocutorlaw1_Day.f a1 false).bind fun bt306 => ((interlocutorlaw1_within.f a2 24).bind fun t309 => ((interlocutorlaw1_within.f (wrap64 (Int.tdiv a2 24)) 60).bind fun t310 => ((interlocutorlaw1_within.f (wrap64 (Int.tdiv a2 1440)) 60).bind fun t311 => ((civil_Right.f bt306.1 bt306.2.1 bt306.2.2 t309 t310 t311).bind fun t313 => (if t313 = true then ((interlocutorlaw1_within.f a3 6).bind fun t314 => (if t314 = 0 then ((some (([0, 1, 9999, 10000, a4] : List Int) : List Int)).bind fun y315 => ((interlocutorlaw1_within.f a4 5).bind fun t318 => (if 0 ≤ t318 then (if t318 < (y315.length : Int) then (interlocutorlaw1_CivilRight.j0 k a0_0 a0_1 a0_2 a0_3 a0_4 a0_5 (rd y315 t318) bt306.2.1 bt306.2.2 t309 t310 t311) else (none)) else (none)))) else (if t314 = 1 then ((some (([0, 1, 2, 12, 13, a4] : List Int) : List Int)).bind fun y320 => ((interlocutorlaw1_within.f a4 6).bind fun t323 => (if 0 ≤ t323 then (if t323 < (y320.length : Int) then (interlocutorlaw1_CivilRight.j0 k a0_0 a0_1 a0_2 a0_3 a0_4 a0_5 bt306.1 (rd y320 t323) bt306.2.2 t309 t310 t311) else (none)) else (none)))) else (if t314 = 2 then ((some (([0, 1, 28, 29, 30, 31, 32, a4] : List Int) : List Int)).bind fun y325 => ((interlocutorlaw1_within.f a4 8).bind fun t328 => (if 0 ≤ t328 then (if t328 < (y325.length : Int) then (interlocutorlaw1_CivilRight.j0 k a0_0 a0_1 a0_2 a0_3 a0_4 a0_5 bt306.1 bt306.2.1 (rd y325 t328) t309 t310 t311) else (none)) else (none)))) else (if t314 = 3 then ((some (([(-1), 0, 23, 24, a4] : List Int) : List Int)).bind fun y330 => ((interlocutorlaw1_within.f a4 5).bind fun t333 => (if 0 ≤ t333 then (if t333 < (y330.length : Int) then (interlocutorlaw1_CivilRight.j0 k a0_0 a0_1 a0_2 a0_3 a0_4 a0_5 bt306.1 bt306.2.1 bt306.2.2 (rd y330 t333) t310 t311) else (none)) else (none)))) else (if t314 = 4 then ((some (([(-1), 0, 59, 60, a4] : List Int) : List Int)).bind fun y335 => ((interlocutorlaw1_within.f a4 5).bind fun t338 => (if 0 ≤ t338 then (if t338 < (y335.length : Int) then (interlocutorlaw1_CivilRight.j0 k a0_0 a0_1 a0_2 a0_3 a0_4 a0_5 bt306.1 bt306.2.1 bt306.2.2 t309 (rd y335 t338) t311) else (none)) else (none)))) else (if t314 = 5 then ((some (([(-1), 0, 59, 60, a4] : List Int) : List Int)).bind fun y340 => ((interlocutorlaw1_within.f a4 5).bind fun t343 => (if 0 ≤ t343 then (if t343 < (y340.length : Int) then (interlocutorlaw1_CivilRight.j0 k a0_0 a0_1 a0_2 a0_3 a0_4 a0_5 bt306.1 bt306.2.1 bt306.2.2 t309 t310 (rd y340 t343)) else (none)) else (none)))) else (interlocutorlaw1_CivilRight.j0 k a0_0 a0_1 a0_2 a0_3 a0_4 a0_5 bt306.1 bt306.2.1 bt306.2.2 t309 t310 t311)))))))) else (some false))))))) else (some false)) = some r := H
  have A6 := Aside0.mk A60
  clear A60
  by_cases c7 : t305 = true
  · subst c7
    have H1 : ((interlocutorlaw1_Day.f a1 false).bind fun bt306 => ((interlocutorlaw1_within.f a2 24).bind fun t309 => ((interlocutorlaw1_within.f (wrap64 (Int.tdiv a2 24)) 60).bind fun t310 => ((interlocutorlaw1_within.f (wrap64 (Int.tdiv a2 1440)) 60).bind fun t311 => ((civil_Right.f bt306.1 bt306.2.1 bt306.2.2 t309 t310 t311).bind fun t313 => (if t313 = true then ((interlocutorlaw1_within.f a3 6).bind fun t314 => (if t314 = 0 then ((some (([0, 1, 9999, 10000, a4] : List Int) : List Int)).bind fun y315 => ((interlocutorlaw1_within.f a4 5).bind fun t318 => (if 0 ≤ t318 then (if t318 < (y315.length : Int) then (interlocutorlaw1_CivilRight.j0 k a0_0 a0_1 a0_2 a0_3 a0_4 a0_5 (rd y315 t318) bt306.2.1 bt306.2.2 t309 t310 t311) else (none)) else (none)))) else (if t314 = 1 then ((some (([0, 1, 2, 12, 13, a4] : List Int) : List Int)).bind fun y320 => ((interlocutorlaw1_within.f a4 6).bind fun t323 => (if 0 ≤ t323 then (if t323 < (y320.length : Int) then (interlocutorlaw1_CivilRight.j0 k a0_0 a0_1 a0_2 a0_3 a0_4 a0_5 bt306.1 (rd y320 t323) bt306.2.2 t309 t310 t311) else (none)) else (none)))) else (if t314 = 2 then ((some (([0, 1, 28, 29, 30, 31, 32, a4] : List Int) : List Int)).bind fun y325 => ((interlocutorlaw1_within.f a4 8).bind fun t328 => (if 0 ≤ t328 then (if t328 < (y325.length : Int) then (interlocutorlaw1_CivilRight.j0 k a0_0 a0_1 a0_2 a0_3 a0_4 a0_5 bt306.1 bt306.2.1 (rd y325 t328) t309 t310 t311) else (none)) else (none)))) else (if t314 = 3 then ((some (([(-1), 0, 23, 24, a4] : List Int) : List Int)).bind fun y330 => ((interlocutorlaw1_within.f a4 5).bind fun t333 => (if 0 ≤ t333 then (if t333 < (y330.length : Int) then (interlocutorlaw1_CivilRight.j0 k a0_0 a0_1 a0_2 a0_3 a0_4 a0_5 bt306.1 bt306.2.1 bt306.2.2 (rd y330 t333) t310 t311) else (none)) else (none)))) else (if t314 = 4 then ((some (([(-1), 0, 59, 60, a4] : List Int) : List Int)).bind fun y335 => ((interlocutorlaw1_within.f a4 5).bind fun t338 => (if 0 ≤ t338 then (if t338 < (y335.length : Int) then (interlocutorlaw1_CivilRight.j0 k a0_0 a0_1 a0_2 a0_3 a0_4 a0_5 bt306.1 bt306.2.1 bt306.2.2 t309 (rd y335 t338) t311) else (none)) else (none)))) else (if t314 = 5 then ((some (([(-1), 0, 59, 60, a4] : List Int) : List Int)).bind fun y340 => ((interlocutorlaw1_within.f a4 5).bind fun t343 => (if 0 ≤ t343 then (if t343 < (y340.length : Int) then (interlocutorlaw1_CivilRight.j0 k a0_0 a0_1 a0_2 a0_3 a0_4 a0_5 bt306.1 bt306.2.1 bt306.2.2 t309 t310 (rd y340 t343)) else (none)) else (none)))) else (interlocutorlaw1_CivilRight.j0 k a0_0 a0_1 a0_2 a0_3 a0_4 a0_5 bt306.1 bt306.2.1 bt306.2.2 t309 t310 t311)))))))) else (some false))))))) = some r := by rw [if_pos rfl] at H; exact H
    clear H
    have H := H1
    clear H1
    replace H := Option.bind_eq_some_iff.mp H
    obtain ⟨⟨t306, t307, t308⟩, A80, H⟩ := H
    replace H : ((interlocutorlaw1_within.f a2 24).bind fun t309 => ((interlocutorlaw1_within.f (wrap64 (Int.tdiv a2 24)) 60).bind fun t310 => ((interlocutorlaw1_within.f (wrap64 (Int.tdiv a2 1440)) 60).bind fun t311 => ((civil_Right.f t306 t307 t308 t309 t310 t311).bind fun t313 => (if t313 = true then ((interlocutorlaw1_within.f a3 6).bind fun t314 => (if t314 = 0 then ((some (([0, 1, 9999, 10000, a4] : List Int) : List Int)).bind fun y315 => ((interlocutorlaw1_within.f a4 5).bind fun t318 => (if 0 ≤ t318 then (if t318 < (y315.length : Int) then (interlocutorlaw1_CivilRight.j0 k a0_0 a0_1 a0_2 a0_3 a0_4 a0_5 (rd y315 t318) t307 t308 t309 t310 t311) else (none)) else (none)))) else (if t314 = 1 then ((some (([0, 1, 2, 12, 13, a4] : List Int) : List Int)).bind fun y320 => ((interlocutorlaw1_within.f a4 6).bind fun t323 => (if 0 ≤ t323 then (if t323 < (y320.length : Int) then (interlocutorlaw1_CivilRight.j0 k a0_0 a0_1 a0_2 a0_3 a0_4 a0_5 t306 (rd y320 t323) t308 t309 t310 t311) else (none)) else (none)))) else (if t314 = 2 then ((some (([0, 1, 28, 29, 30, 31, 32, a4] : List Int) : List Int)).bind fun y325 => ((interlocutorlaw1_within.f a4 8).bind fun t328 => (if 0 ≤ t328 then (if t328 < (y325.length : Int) then (interlocutorlaw1_CivilRight.j0 k a0_0 a0_1 a0_2 a0_3 a0_4 a0_5 t306 t307 (rd y325 t328) t309 t310 t311) else (none)) else (none)))) else (if t314 = 3 then ((some (([(-1), 0, 23, 24, a4] : List Int) : List Int)).bind fun y330 => ((interlocutorlaw1_within.f a4 5).bind fun t333 => (if 0 ≤ t333 then (if t333 < (y330.length : Int) then (interlocutorlaw1_CivilRight.j0 k a0_0 a0_1 a0_2 a0_3 a0_4 a0_5 t306 t307 t308 (rd y330 t333) t310 t311) else (none)) else (none)))) else (if t314 = 4 then ((some (([(-1), 0, 59, 60, a4] : List Int) : List Int)).bind fun y335 => ((interlocutorlaw1_within.f a4 5).bind fun t338 => (if 0 ≤ t338 then (if t338 < (y335.length : Int) then (interlocutorlaw1_CivilRight.j0 k a0_0 a0_1 a0_2 a0_3 a0_4 a0_5 t306 t307 t308 t309 (rd y335 t338) t311) else (none)) else (none)))) else (if t314 = 5 then ((some (([(-1), 0, 59, 60, a4] : List Int) : List Int)).bind fun y340 => ((interlocutorlaw1_within.f a4 5).bind fun t343 => (if 0 ≤ t343 then (if t343 < (y340.length : Int) then (interlocutorlaw1_CivilRight.j0 k a0_0 a0_1 a0_2 a0_3 a0_4 a0_5 t306 t307 t308 t309 t310 (rd y340 t343)) else (none)) else (none)))) else (interlocutorlaw1_CivilRight.j0 k a0_0 a0_1 a0_2 a0_3 a0_4 a0_5 t306 t307 t308 t309 t310 t311)))))))) else (some false)))))) = some r := H
    have A8 := Aside0.mk A80
    clear A80
    replace H := Option.bind_eq_some_iff.mp H
    obtain ⟨t309, A90, H⟩ := H
    replace H : ((interlocutorlaw1_within.f (wrap64 (Int.tdiv a2 24)) 60).bind fun t310 => ((interlocutorlaw1_within.f (wrap64 (Int.tdiv a2 1440)) 60).bind fun t311 => ((civil_Right.f t306 t307 t308 t309 t310 t311).bind fun t313 => (if t313 = true then ((interlocutorlaw1_within.f a3 6).bind fun t314 => (if t314 = 0 then ((some (([0, 1, 9999, 10000, a4] : List Int) : List Int)).bind fun y315 => ((interlocutorlaw1_within.f a4 5).bind fun t318 => (if 0 ≤ t318 then (if t318 < (y315.length : Int) then (interlocutorlaw1_CivilRight.j0 k a0_0 a0_1 a0_2 a0_3 a0_4 a0_5 (rd y315 t318) t307 t308 t309 t310 t311) else (none)) else (none)))) else (if t314 = 1 then ((some (([0, 1, 2, 12, 13, a4] : List Int) : List Int)).bind fun y320 => ((interlocutorlaw1_within.f a4 6).bind fun t323 => (if 0 ≤ t323 then (if t323 < (y320.length : Int) then (interlocutorlaw1_CivilRight.j0 k a0_0 a0_1 a0_2 a0_3 a0_4 a0_5 t306 (rd y320 t323) t308 t309 t310 t311) else (none)) else (none)))) else (if t314 = 2 then ((some (([0, 1, 28, 29, 30, 31, 32, a4] : List Int) : List Int)).bind fun y325 => ((interlocutorlaw1_within.f a4 8).bind fun t328 => (if 0 ≤ t328 then (if t328 < (y325.length : Int) then (interlocutorlaw1_CivilRight.j0 k a0_0 a0_1 a0_2 a0_3 a0_4 a0_5 t306 t307 (rd y325 t328) t309 t310 t311) else (none)) else (none)))) else (if t314 = 3 then ((some (([(-1), 0, 23, 24, a4] : List Int) : List Int)).bind fun y330 => ((interlocutorlaw1_within.f a4 5).bind fun t333 => (if 0 ≤ t333 then (if t333 < (y330.length : Int) then (interlocutorlaw1_CivilRight.j0 k a0_0 a0_1 a0_2 a0_3 a0_4 a0_5 t306 t307 t308 (rd y330 t333) t310 t311) else (none)) else (none)))) else (if t314 = 4 then ((some (([(-1), 0, 59, 60, a4] : List Int) : List Int)).bind fun y335 => ((interlocutorlaw1_within.f a4 5).bind fun t338 => (if 0 ≤ t338 then (if t338 < (y335.length : Int) then (interlocutorlaw1_CivilRight.j0 k a0_0 a0_1 a0_2 a0_3 a0_4 a0_5 t306 t307 t308 t309 (rd y335 t338) t311) else (none)) else (none)))) else (if t314 = 5 then ((some (([(-1), 0, 59, 60, a4] : List Int) : List Int)).bind fun y340 => ((interlocutorlaw1_within.f a4 5).bind fun t343 => (if 0 ≤ t343 then (if t343 < (y340.length : Int) then (interlocutorlaw1_CivilRight.j0 k a0_0 a0_1 a0_2 a0_3 a0_4 a0_5 t306 t307 t308 t309 t310 (rd y340 t343)) else (none)) else (none)))) else (interlocutorlaw1_CivilRight.j0 k a0_0 a0_1 a0_2 a0_3 a0_4 a0_5 t306 t307 t308 t309 t310 t311)))))))) else (some false))))) = some r := H
    have A9 := Aside0.mk A90
    clear A90
    replace H := Option.bind_eq_some_iff.mp H
    obtain ⟨t310, A100, H⟩ := H
    replace H : ((interlocutorlaw1_within.f (wrap64 (Int.tdiv a2 1440)) 60).bind fun t311 => ((civil_Right.f t306 t307 t308 t309 t310 t311).bind fun t313 => (if t313 = true then ((interlocutorlaw1_within.f a3 6).bind fun t314 => (if t314 = 0 then ((some (([0, 1, 9999, 10000, a4] : List Int) : List Int)).bind fun y315 => ((interlocutorlaw1_within.f a4 5).bind fun t318 => (if 0 ≤ t318 then (if t318 < (y315.length : Int) then (interlocutorlaw1_CivilRight.j0 k a0_0 a0_1 a0_2 a0_3 a0_4 a0_5 (rd y315 t318) t307 t308 t309 t310 t311) else (none)) else (none)))) else (if t314 = 1 then ((some (([0, 1, 2, 12, 13, a4] : List Int) : List Int)).bind fun y320 => ((interlocutorlaw1_within.f a4 6).bind fun t323 => (if 0 ≤ t323 then (if t323 < (y320.length : Int) then (interlocutorlaw1_CivilRight.j0 k a0_0 a0_1 a0_2 a0_3 a0_4 a0_5 t306 (rd y320 t323) t308 t309 t310 t311) else (none)) else (none)))) else (if t314 = 2 then ((some (([0, 1, 28, 29, 30, 31, 32, a4] : List Int) : List Int)).bind fun y325 => ((interlocutorlaw1_within.f a4 8).bind fun t328 => (if 0 ≤ t328 then (if t328 < (y325.length : Int) then (interlocutorlaw1_CivilRight.j0 k a0_0 a0_1 a0_2 a0_3 a0_4 a0_5 t306 t307 (rd y325 t328) t309 t310 t311) else (none)) else (none)))) else (if t314 = 3 then ((some (([(-1), 0, 23, 24, a4] : List Int) : List Int)).bind fun y330 => ((interlocutorlaw1_within.f a4 5).bind fun t333 => (if 0 ≤ t333 then (if t333 < (y330.length : Int) then (interlocutorlaw1_CivilRight.j0 k a0_0 a0_1 a0_2 a0_3 a0_4 a0_5 t306 t307 t308 (rd y330 t333) t310 t311) else (none)) else (none)))) else (if t314 = 4 then ((some (([(-1), 0, 59, 60, a4] : List Int) : List Int)).bind fun y335 => ((interlocutorlaw1_within.f a4 5).bind fun t338 => (if 0 ≤ t338 then (if t338 < (y335.length : Int) then (interlocutorlaw1_CivilRight.j0 k a0_0 a0_1 a0_2 a0_3 a0_4 a0_5 t306 t307 t308 t309 (rd y335 t338) t311) else (none)) else (none)))) else (if t314 = 5 then ((some (([(-1), 0, 59, 60, a4] : List Int) : List Int)).bind fun y340 => ((interlocutorlaw1_within.f a4 5).bind fun t343 => (if 0 ≤ t343 then (if t343 < (y340.length : Int) then (interlocutorlaw1_CivilRight.j0 k a0_0 a0_1 a0_2 a0_3 a0_4 a0_5 t306 t307 t308 t309 t310 (rd y340 t343)) else (none)) else (none)))) else (interlocutorlaw1_CivilRight.j0 k a0_0 a0_1 a0_2 a0_3 a0_4 a0_5 t306 t307 t308 t309 t310 t311)))))))) else (some false)))) = some r := H
    have A10 := Aside0.mk A100
    clear A100
    replace H := Option.bind_eq_some_iff.mp H
    obtain ⟨t311, A110, H⟩ := H
    replace H : ((civil_Right.f t306 t307 t308 t309 t310 t311).bind fun t313 => (if t313 = true then ((interlocutorlaw1_within.f a3 6).bind fun t314 => (if t314 = 0 then ((some (([0, 1, 9999, 10000, a4] : List Int) : List Int)).bind fun y315 => ((interlocutorlaw1_within.f a4 5).bind fun t318 => (if 0 ≤ t318 then (if t318 < (y315.length : Int) then (interlocutorlaw1_CivilRight.j0 k a0_0 a0_1 a0_2 a0_3 a0_4 a0_5 (rd y315 t318) t307 t308 t309 t310 t311) else (none)) else (none)))) else (if t314 = 1 then ((some (([0, 1, 2, 12, 13, a4] : List Int) : List Int)).bind fun y320 => ((interlocutorlaw1_within.f a4 6).bind fun t323 => (if 0 ≤ t323 then (if t323 < (y320.length : Int) then (interlocutorlaw1_CivilRight.j0 k a0_0 a0_1 a0_2 a0_3 a0_4 a0_5 t306 (rd y320 t323) t308 t309 t310 t311) else (none)) else (none)))) else (if t314 = 2 then ((some (([0, 1, 28, 29, 30, 31, 32, a4] : List Int) : List Int)).bind fun y325 => ((interlocutorlaw1_within.f a4 8).bind fun t328 => (if 0 ≤ t328 then (if t328 < (y325.length : Int) then (interlocutorlaw1_CivilRight.j0 k a0_0 a0_1 a0_2 a0_3 a0_4 a0_5 t306 t307 (rd y325 t328) t309 t310 t311) else (none)) else (none)))) else (if t314 = 3 then ((some (([(-1), 0, 23, 24, a4] : List Int) : List Int)).bind fun y330 => ((interlocutorlaw1_within.f a4 5).bind fun t333 => (if 0 ≤ t333 then (if t333 < (y330.length : Int) then (interlocutorlaw1_CivilRight.j0 k a0_0 a0_1 a0_2 a0_3 a0_4 a0_5 t306 t307 t308 (rd y330 t333) t310 t311) else (none)) else (none)))) else (if t314 = 4 then ((some (([(-1), 0, 59, 60, a4] : List Int) : List Int)).bind fun y335 => ((interlocutorlaw1_within.f a4 5).bind fun t338 => (if 0 ≤ t338 then (if t338 < (y335.length : Int) then (interlocutorlaw1_CivilRight.j0 k a0_0 a0_1 a0_2 a0_3 a0_4 a0_5 t306 t307 t308 t309 (rd y335 t338) t311) else (none)) else (none)))) else (if t314 = 5 then ((some (([(-1), 0, 59, 60, a4] : List Int) : List Int)).bind fun y340 => ((interlocutorlaw1_within.f a4 5).bind fun t343 => (if 0 ≤ t343 then (if t343 < (y340.length : Int) then (interlocutorlaw1_CivilRight.j0 k a0_0 a0_1 a0_2 a0_3 a0_4 a0_5 t306 t307 t308 t309 t310 (rd y340 t343)) else (none)) else (none)))) else (interlocutorlaw1_CivilRight.j0 k a0_0 a0_1 a0_2 a0_3 a0_4 a0_5 t306 t307 t308 t309 t310 t311)))))))) else (some false))) = some r := H
    have A11 := Aside0.mk A110
    clear A110
    replace H := Option.bind_eq_some_iff.mp H
    obtain ⟨t313, A120, H⟩ := H
    replace H : (if t313 = true then ((interlocutorlaw1_within.f a3 6).bind fun t314 => (if t314 = 0 then ((some (([0, 1, 9999, 10000, a4] : List Int) : List Int)).bind fun y315 => ((interlocutorlaw1_within.f a4 5).bind fun t318 => (if 0 ≤ t318 then (if t318 < (y315.length : Int) then (interlocutorlaw1_CivilRight.j0 k a0_0 a0_1 a0_2 a0_3 a0_4 a0_5 (rd y315 t318) t307 t308 t309 t310 t311) else (none)) else (none)))) else (if t314 = 1 then ((some (([0, 1, 2, 12, 13, a4] : List Int) : List Int)).bind fun y320 => ((interlocutorlaw1_within.f a4 6).bind fun t323 => (if 0 ≤ t323 then (if t323 < (y320.length : Int) then (interlocutorlaw1_CivilRight.j0 k a0_0 a0_1 a0_2 a0_3 a0_4 a0_5 t306 (rd y320 t323) t308 t309 t310 t311) else (none)) else (none)))) else (if t314 = 2 then ((some (([0, 1, 28, 29, 30, 31, 32, a4] : List Int) : List Int)).bind fun y325 => ((interlocutorlaw1_within.f a4 8).bind fun t328 => (if 0 ≤ t328 then (if t328 < (y325.length : Int) then (interlocutorlaw1_CivilRight.j0 k a0_0 a0_1 a0_2 a0_3 a0_4 a0_5 t306 t307 (rd y325 t328) t309 t310 t311) else (none)) else (none)))) else (if t314 = 3 then ((some (([(-1), 0, 23, 24, a4] : List Int) : List Int)).bind fun y330 => ((interlocutorlaw1_within.f a4 5).bind fun t333 => (if 0 ≤ t333 then (if t333 < (y330.length : Int) then (interlocutorlaw1_CivilRight.j0 k a0_0 a0_1 a0_2 a0_3 a0_4 a0_5 t306 t307 t308 (rd y330 t333) t310 t311) else (none)) else (none)))) else (if t314 = 4 then ((some (([(-1), 0, 59, 60, a4] : List Int) : List Int)).bind fun y335 => ((interlocutorlaw1_within.f a4 5).bind fun t338 => (if 0 ≤ t338 then (if t338 < (y335.length : Int) then (interlocutorlaw1_CivilRight.j0 k a0_0 a0_1 a0_2 a0_3 a0_4 a0_5 t306 t307 t308 t309 (rd y335 t338) t311) else (none)) else (none)))) else (if t314 = 5 then ((some (([(-1), 0, 59, 60, a4] : List Int) : List Int)).bind fun y340 => ((interlocutorlaw1_within.f a4 5).bind fun t343 => (if 0 ≤ t343 then (if t343 < (y340.length : Int) then (interlocutorlaw1_CivilRight.j0 k a0_0 a0_1 a0_2 a0_3 a0_4 a0_5 t306 t307 t308 t309 t310 (rd y340 t343)) else (none)) else (none)))) else (interlocutorlaw1_CivilRight.j0 k a0_0 a0_1 a0_2 a0_3 a0_4 a0_5 t306 t307 t308 t309 t310 t311)))))))) else (some false)) = some r := H
    have A12 := Aside0.mk A120
    clear A120
    by_cases c13 : t313 = true
    · subst c13
      have H1 : ((interlocutorlaw1_within.f a3 6).bind fun t314 => (if t314 = 0 then ((some (([0, 1, 9999, 10000, a4] : List Int) : List Int)).bind fun y315 => ((interlocutorlaw1_within.f a4 5).bind fun t318 => (if 0 ≤ t318 then (if t318 < (y315.length : Int) then (interlocutorlaw1_CivilRight.j0 k a0_0 a0_1 a0_2 a0_3 a0_4 a0_5 (rd y315 t318) t307 t308 t309 t310 t311) else (none)) else (none)))) else (if t314 = 1 then ((some (([0, 1, 2, 12, 13, a4] : List Int) : List Int)).bind fun y320 => ((interlocutorlaw1_within.f a4 6).bind fun t323 => (if 0 ≤ t323 then (if t323 < (y320.length : Int) then (interlocutorlaw1_CivilRight.j0 k a0_0 a0_1 a0_2 a0_3 a0_4 a0_5 t306 (rd y320 t323) t308 t309 t310 t311) else (none)) else (none)))) else (if t314 = 2 then ((some (([0, 1, 28, 29, 30, 31, 32, a4] : List Int) : List Int)).bind fun y325 => ((interlocutorlaw1_within.f a4 8).bind fun t328 => (if 0 ≤ t328 then (if t328 < (y325.length : Int) then (interlocutorlaw1_CivilRight.j0 k a0_0 a0_1 a0_2 a0_3 a0_4 a0_5 t306 t307 (rd y325 t328) t309 t310 t311) else (none)) else (none)))) else (if t314 = 3 then ((some (([(-1), 0, 23, 24, a4] : List Int) : List Int)).bind fun y330 => ((interlocutorlaw1_within.f a4 5).bind fun t333 => (if 0 ≤ t333 then (if t333 < (y330.length : Int) then (interlocutorlaw1_CivilRight.j0 k a0_0 a0_1 a0_2 a0_3 a0_4 a0_5 t306 t307 t308 (rd y330 t333) t310 t311) else (none)) else (none)))) else (if t314 = 4 then ((some (([(-1), 0, 59, 60, a4] : List Int) : List Int)).bind fun y335 => ((interlocutorlaw1_within.f a4 5).bind fun t338 => (if 0 ≤ t338 then (if t338 < (y335.length : Int) then (interlocutorlaw1_CivilRight.j0 k a0_0 a0_1 a0_2 a0_3 a0_4 a0_5 t306 t307 t308 t309 (rd y335 t338) t311) else (none)) else (none)))) else (if t314 = 5 then ((some (([(-1), 0, 59, 60, a4] : List Int) : List Int)).bind fun y340 => ((interlocutorlaw1_within.f a4 5).bind fun t343 => (if 0 ≤ t343 then (if t343 < (y340.length : Int) then (interlocutorlaw1_CivilRight.j0 k a0_0 a0_1 a0_2 a0_3 a0_4 a0_5 t306 t307 t308 t309 t310 (rd y340 t343)) else (none)) else (none)))) else (interlocutorlaw1_CivilRight.j0 k a0_0 a0_1 a0_2 a0_3 a0_4 a0_5 t306 t307 t308 t309 t310 t311)))))))) = some r := by rw [if_pos rfl] at H; exact H
      clear H
      have H := H1
      clear H1
      replace H := Option.bind_eq_some_iff.mp H
      obtain ⟨t314, A140, H⟩ := H
      replace H : (if t314 = 0 then ((some (([0, 1, 9999, 10000, a4] : List Int) : List Int)).bind fun y315 => ((interlocutorlaw1_within.f a4 5).bind fun t318 => (if 0 ≤ t318 then (if t318 < (y315.length : Int) then (interlocutorlaw1_CivilRight.j0 k a0_0 a0_1 a0_2 a0_3 a0_4 a0_5 (rd y315 t318) t307 t308 t309 t310 t311) else (none)) else (none)))) else (if t314 = 1 then ((some (([0, 1, 2, 12, 13, a4] : List Int) : List Int)).bind fun y320 => ((interlocutorlaw1_within.f a4 6).bind fun t323 => (if 0 ≤ t323 then (if t323 < (y320.length : Int) then (interlocutorlaw1_CivilRight.j0 k a0_0 a0_1 a0_2 a0_3 a0_4 a0_5 t306 (rd y320 t323) t308 t309 t310 t311) else (none)) else (none)))) else (if t314 = 2 then ((some (([0, 1, 28, 29, 30, 31, 32, a4] : List Int) : List Int)).bind fun y325 => ((interlocutorlaw1_within.f a4 8).bind fun t328 => (if 0 ≤ t328 then (if t328 < (y325.length : Int) then (interlocutorlaw1_CivilRight.j0 k a0_0 a0_1 a0_2 a0_3 a0_4 a0_5 t306 t307 (rd y325 t328) t309 t310 t311) else (none)) else (none)))) else (if t314 = 3 then ((some (([(-1), 0, 23, 24, a4] : List Int) : List Int)).bind fun y330 => ((interlocutorlaw1_within.f a4 5).bind fun t333 => (if 0 ≤ t333 then (if t333 < (y330.length : Int) then (interlocutorlaw1_CivilRight.j0 k a0_0 a0_1 a0_2 a0_3 a0_4 a0_5 t306 t307 t308 (rd y330 t333) t310 t311) else (none)) else (none)))) else (if t314 = 4 then ((some (([(-1), 0, 59, 60, a4] : List Int) : List Int)).bind fun y335 => ((interlocutorlaw1_within.f a4 5).bind fun t338 => (if 0 ≤ t338 then (if t338 < (y335.length : Int) then (interlocutorlaw1_CivilRight.j0 k a0_0 a0_1 a0_2 a0_3 a0_4 a0_5 t306 t307 t308 t309 (rd y335 t338) t311) else (none)) else (none)))) else (if t314 = 5 then ((some (([(-1), 0, 59, 60, a4] : List Int) : List Int)).bind fun y340 => ((interlocutorlaw1_within.f a4 5).bind fun t343 => (if 0 ≤ t343 then (if t343 < (y340.length : Int) then (interlocutorlaw1_CivilRight.j0 k a0_0 a0_1 a0_2 a0_3 a0_4 a0_5 t306 t307 t308 t309 t310 (rd y340 t343)) else (none)) else (none)))) else (interlocutorlaw1_CivilRight.j0 k a0_0 a0_1 a0_2 a0_3 a0_4 a0_5 t306 t307 t308 t309 t310 t311))))))) = some r := H
      have A14 := Aside0.mk A140
      clear A140
      have HC15 := Aside0.mk H
      clear H
      go_enter Try.func13, Try.ntmps13
      go_upto_block 0 with (first | ((with_reducible refine gate_dst (N := 5) rfl ?_); refine box_event ?hg (N := 5) ?hd (cs := #[.int .i64 a0_0, .int .i64 a0_1, .int .i64 a0_2, .int .i64 a0_3, .int .i64 a0_4, .int .i64 a0_5]) (t := 36) ?hr ?_; (case hd => rfl); (case hg => rfl); (case hr => first | (go_simp; done) | (go_simp; rfl)); intro gb304 hg w16 hbox hb; have n0_ := Aside0.mk (below_step (by repeat (first | (with_reducible first | exact HB.out | apply below_alloc | apply pw_below_drewN | apply below_drew1) | exact HB.out)) hb); have n1_ := Aside0.mk (hbox); have n2_ := Aside0.mk ((by rw [hg]; exact (below_size (by repeat (first | (with_reducible first | exact HB.out | apply below_alloc | apply pw_below_drewN | apply below_drew1) | exact HB.out))) : w.heap.size ≤ gb304)); have n3_ := Aside0.mk ((by rw [hg]; exact (below_size (by repeat (first | (with_reducible first | exact HB.out | apply below_alloc | apply pw_below_drewN | apply below_drew1) | exact HB.out))) : w.heap.size ≤ gb304)); clear HB; have HB := n0_; have BK304 := n1_; have GW304 := n2_; have GE304 := n3_; clear n0_ n1_ n2_ n3_; clear hb hbox hg) | ((with_reducible refine gate_callee (f := 14) rfl ?_); refine goesL_ (some 15) rfl rfl Try.func14 (by kernel_rfl) rfl #[] rfl (by (try simp only [List.map_toArray, List.map_cons, List.map_nil]); first | done | rfl | (simp only [List.length_drop, List.length_take]; rfl)) ?_; (with_reducible refine (interlocutorlaw1_known.calls  true _ A6.out).mono ?_); rintro e w17 ⟨rfl, hb⟩; refine ⟨_, rfl, ?_⟩; have n0_ := Aside0.mk (blk_below (g := gb304) (o := .cells #[.int .i64 a0_0, .int .i64 a0_1, .int .i64 a0_2, .int .i64 a0_3, .int .i64 a0_4, .int .i64 a0_5] 36 (0, 0)) (by (with_reducible repeat (first | refine blk_drewN ?_ _ | refine blk_drew ?_ | refine blk_alloc ?_ _)); exact BK304.out) hb); have n1_ := Aside0.mk (below_step (by repeat (first | (with_reducible first | exact HB.out | apply below_alloc | apply pw_below_drewN | apply below_drew1 | refine below_set ?_ GE304.out) | exact HB.out)) hb); clear BK304; clear HB; have BK304 := n0_; have HB := n1_; clear n0_ n1_; (try clear hb); (try clear hb2); (try clear hk); (try clear hi)) | ((with_reducible refine gate_callee (f := 15) rfl ?_); refine goesL_ (some 19) rfl rfl Try.func15 (by kernel_rfl) rfl #[.int .i64 a1, .bool false] rfl (by (try simp only [List.map_toArray, List.map_cons, List.map_nil]); first | done | rfl | (simp only [List.length_drop, List.length_take]; rfl)) ?_; (with_reducible refine (interlocutorlaw1_Day.calls a1 false t306 t307 t308 _ A8.out).mono ?_); rintro e w' ⟨rfl, ⟨nd, rfl⟩⟩; refine ⟨_, rfl, ?_⟩; (try (rw [drewN_self w17]; generalize hq_ : World.drewN w17 _ = w17; have n0_ : Aside0 (w17.heap[gb304]? = some (.cells #[.int .i64 a0_0, .int .i64 a0_1, .int .i64 a0_2, .int .i64 a0_3, .int .i64 a0_4, .int .i64 a0_5] 36 (0, 0))) := ⟨by rw [← hq_]; exact (by (with_reducible repeat (first | refine blk_drewN ?_ _ | refine blk_drew ?_ | refine blk_alloc ?_ _)); exact BK304.out)⟩; have n1_ : Aside0 (Below w.heap.size w w17) := ⟨by rw [← hq_]; exact (by repeat (first | (with_reducible first | exact HB.out | apply below_alloc | apply pw_below_drewN | apply below_drew1 | refine below_set ?_ GE304.out) | exact HB.out))⟩; clear BK304 HB hq_; have BK304 := n0_; have HB := n1_; clear n0_ n1_))) | ((with_reducible refine gate_callee (f := 22) rfl ?_); refine goesL_ (some 27) rfl rfl Try.func22 (by kernel_rfl) rfl #[.int .i64 a2, .int .i64 24] rfl (by (try simp only [List.map_toArray, List.map_cons, List.map_nil]); first | done | rfl | (simp only [List.length_drop, List.length_take]; rfl)) ?_; (with_reducible refine (interlocutorlaw1_within.calls a2 24 t309 _ A9.out).mono ?_); rintro e w' ⟨rfl, ⟨nd, rfl⟩⟩; refine ⟨_, rfl, ?_⟩; (try (rw [drewN_self w17]; generalize hq_ : World.drewN w17 _ = w17; have n0_ : Aside0 (w17.heap[gb304]? = some (.cells #[.int .i64 a0_0, .int .i64 a0_1, .int .i64 a0_2, .int .i64 a0_3, .int .i64 a0_4, .int .i64 a0_5] 36 (0, 0))) := ⟨by rw [← hq_]; exact (by (with_reducible repeat (first | refine blk_drewN ?_ _ | refine blk_drew ?_ | refine blk_alloc ?_ _)); exact BK304.out)⟩; have n1_ : Aside0 (Below w.heap.size w w17) := ⟨by rw [← hq_]; exact (by repeat (first | (with_reducible first | exact HB.out | apply below_alloc | apply pw_below_drewN | apply below_drew1 | refine below_set ?_ GE304.out) | exact HB.out))⟩; clear BK304 HB hq_; have BK304 := n0_; have HB := n1_; clear n0_ n1_))) | ((with_reducible refine gate_callee (f := 22) rfl ?_); refine goesL_ (some 30) rfl rfl Try.func22 (by kernel_rfl) rfl #[.int .i64 (wrap64 (Int.tdiv a2 24)), .int .i64 60] rfl (by (try simp only [List.map_toArray, List.map_cons, List.map_nil]); first | done | rfl | (simp only [List.length_drop, List.length_take]; rfl)) ?_; (with_reducible refine (interlocutorlaw1_within.calls (wrap64 (Int.tdiv a2 24)) 60 t310 _ A10.out).mono ?_); rintro e w' ⟨rfl, ⟨nd, rfl⟩⟩; refine ⟨_, rfl, ?_⟩; (try (rw [drewN_self w17]; generalize hq_ : World.drewN w17 _ = w17; have n0_ : Aside0 (w17.heap[gb304]? = some (.cells #[.int .i64 a0_0, .int .i64 a0_1, .int .i64 a0_2, .int .i64 a0_3, .int .i64 a0_4, .int .i64 a0_5] 36 (0, 0))) := ⟨by rw [← hq_]; exact (by (with_reducible repeat (first | refine blk_drewN ?_ _ | refine blk_drew ?_ | refine blk_alloc ?_ _)); exact BK304.out)⟩; have n1_ : Aside0 (Below w.heap.size w w17) := ⟨by rw [← hq_]; exact (by repeat (first | (with_reducible first | exact HB.out | apply below_alloc | apply pw_below_drewN | apply below_drew1 | refine below_set ?_ GE304.out) | exact HB.out))⟩; clear BK304 HB hq_; have BK304 := n0_; have HB := n1_; clear n0_ n1_))) | ((with_reducible refine gate_callee (f := 22) rfl ?_); refine goesL_ (some 33) rfl rfl Try.func22 (by kernel_rfl) rfl #[.int .i64 (wrap64 (Int.tdiv a2 1440)), .int .i64 60] rfl (by (try simp only [List.map_toArray, List.map_cons, List.map_nil]); first | done | rfl | (simp only [List.length_drop, List.length_take]; rfl)) ?_; (with_reducible refine (interlocutorlaw1_within.calls (wrap64 (Int.tdiv a2 1440)) 60 t311 _ A11.out).mono ?_); rintro e w' ⟨rfl, ⟨nd, rfl⟩⟩; refine ⟨_, rfl, ?_⟩; (try (rw [drewN_self w17]; generalize hq_ : World.drewN w17 _ = w17; have n0_ : Aside0 (w17.heap[gb304]? = some (.cells #[.int .i64 a0_0, .int .i64 a0_1, .int .i64 a0_2, .int .i64 a0_3, .int .i64 a0_4, .int .i64 a0_5] 36 (0, 0))) := ⟨by rw [← hq_]; exact (by (with_reducible repeat (first | refine blk_drewN ?_ _ | refine blk_drew ?_ | refine blk_alloc ?_ _)); exact BK304.out)⟩; have n1_ : Aside0 (Below w.heap.size w w17) := ⟨by rw [← hq_]; exact (by repeat (first | (with_reducible first | exact HB.out | apply below_alloc | apply pw_below_drewN | apply below_drew1 | refine below_set ?_ GE304.out) | exact HB.out))⟩; clear BK304 HB hq_; have BK304 := n0_; have HB := n1_; clear n0_ n1_))) | ((with_reducible refine gate_dst (N := 14) rfl ?_); refine box_event ?hg (N := 14) ?hd (cs := #[.int .i64 0, .int .i64 0, .int .i64 0, .int .i64 0, .int .i64 0, .int .i64 0]) (t := 36) ?hr ?_; (case hd => rfl); (case hg => rfl); (case hr => first | (go_simp; done) | (go_simp; rfl)); intro gb312 hg w18 hbox hb; have n0_ := Aside0.mk (blk_below (g := gb304) (o := .cells #[.int .i64 a0_0, .int .i64 a0_1, .int .i64 a0_2, .int .i64 a0_3, .int .i64 a0_4, .int .i64 a0_5] 36 (0, 0)) (by (with_reducible repeat (first | refine blk_drewN ?_ _ | refine blk_drew ?_ | refine blk_alloc ?_ _)); exact BK304.out) hb); have n1_ := Aside0.mk (below_step (by repeat (first | (with_reducible first | exact HB.out | apply below_alloc | apply pw_below_drewN | apply below_drew1 | refine below_set ?_ GE304.out) | exact HB.out)) hb); have n2_ := Aside0.mk (hbox); have n3_ := Aside0.mk ((by rw [hg]; exact (below_size (by repeat (first | (with_reducible first | exact HB.out | apply below_alloc | apply pw_below_drewN | apply below_drew1 | refine below_set ?_ GE304.out) | exact HB.out))) : w.heap.size ≤ gb312)); have n4_ := Aside0.mk ((by rw [hg]; exact (below_size (by repeat (first | (with_reducible first | exact HB.out | apply below_alloc | apply pw_below_drewN | apply below_drew1 | refine below_set ?_ GE304.out) | exact HB.out))) : w.heap.size ≤ gb312)); have n5_ := Aside0.mk ((by rw [hg]; exact Nat.ne_of_lt (blk_lt (g := gb304) (o := .cells #[.int .i64 a0_0, .int .i64 a0_1, .int .i64 a0_2, .int .i64 a0_3, .int .i64 a0_4, .int .i64 a0_5] 36 (0, 0)) (by (with_reducible repeat (first | refine blk_drewN ?_ _ | refine blk_drew ?_ | refine blk_alloc ?_ _)); exact BK304.out)) : gb304 ≠ gb312)); have n6_ := Aside0.mk ((by rw [hg]; exact Nat.ne_of_gt (blk_lt (g := gb304) (o := .cells #[.int .i64 a0_0, .int .i64 a0_1, .int .i64 a0_2, .int .i64 a0_3, .int .i64 a0_4, .int .i64 a0_5] 36 (0, 0)) (by (with_reducible repeat (first | refine blk_drewN ?_ _ | refine blk_drew ?_ | refine blk_alloc ?_ _)); exact BK304.out)) : gb312 ≠ gb304)); clear BK304; clear HB; have BK304 := n0_; have HB := n1_; have BK312 := n2_; have GW312 := n3_; have GE312 := n4_; have NB304_312 := n5_; have NB312_304 := n6_; clear n0_ n1_ n2_ n3_ n4_ n5_ n6_; clear hb hbox hg; have hnb19 := NB312_304.out; have hnc19 := NB304_312.out; have hcz20_0 : w18.cell? ⟨gb312, 0, none⟩ = some (.int .i64 0) := (blk_cell BK312.out 0).trans rfl; have hcz20_1 : w18.cell? ⟨gb312, 1, none⟩ = some (.int .i64 0) := (blk_cell BK312.out 1).trans rfl; have hcz20_2 : w18.cell? ⟨gb312, 2, none⟩ = some (.int .i64 0) := (blk_cell BK312.out 2).trans rfl; have hcz20_3 : w18.cell? ⟨gb312, 3, none⟩ = some (.int .i64 0) := (blk_cell BK312.out 3).trans rfl; have hcz20_4 : w18.cell? ⟨gb312, 4, none⟩ = some (.int .i64 0) := (blk_cell BK312.out 4).trans rfl; have hcz20_5 : w18.cell? ⟨gb312, 5, none⟩ = some (.int .i64 0) := (blk_cell BK312.out 5).trans rfl; have hfz20_0 := blk_frozen BK312.out 0; have hfz20_1 := blk_frozen BK312.out 1; have hfz20_2 := blk_frozen BK312.out 2; have hfz20_3 := blk_frozen BK312.out 3; have hfz20_4 := blk_frozen BK312.out 4; have hfz20_5 := blk_frozen BK312.out 5) | ((with_reducible refine gate_callee (f := 27) rfl ?_); refine goesL_ (some 36) rfl rfl Try.func27 (by kernel_rfl) rfl #[.agg #[.int .i64 t306, .int .i64 t307, .int .i64 t308, .int .i64 t309, .int .i64 t310, .int .i64 t311]] rfl (by (try simp only [List.map_toArray, List.map_cons, List.map_nil]); first | done | rfl | (simp only [List.length_drop, List.length_take]; rfl)) ?_; (with_reducible refine (civil_Right.calls t306 t307 t308 t309 t310 t311 true _ A12.out).mono ?_); rintro e w21 ⟨rfl, hb⟩; refine ⟨_, rfl, ?_⟩; have n0_ := Aside0.mk (blk_below (g := gb304) (o := .cells #[.int .i64 a0_0, .int .i64 a0_1, .int .i64 a0_2, .int .i64 a0_3, .int .i64 a0_4, .int .i64 a0_5] 36 (0, 0)) (by (with_reducible repeat (first | refine blk_drewN ?_ _ | refine blk_drew ?_ | refine blk_alloc ?_ _)); refine blk_far ?_ NB304_312.out _; (with_reducible repeat (first | refine blk_drewN ?_ _ | refine blk_drew ?_ | refine blk_alloc ?_ _)); refine blk_far ?_ NB304_312.out _; (with_reducible repeat (first | refine blk_drewN ?_ _ | refine blk_drew ?_ | refine blk_alloc ?_ _)); refine blk_far ?_ NB304_312.out _; (with_reducible repeat (first | refine blk_drewN ?_ _ | refine blk_drew ?_ | refine blk_alloc ?_ _)); refine blk_far ?_ NB304_312.out _; (with_reducible repeat (first | refine blk_drewN ?_ _ | refine blk_drew ?_ | refine blk_alloc ?_ _)); refine blk_far ?_ NB304_312.out _; (with_reducible repeat (first | refine blk_drewN ?_ _ | refine blk_drew ?_ | refine blk_alloc ?_ _)); refine blk_far ?_ NB304_312.out _; (with_reducible repeat (first | refine blk_drewN ?_ _ | refine blk_drew ?_ | refine blk_alloc ?_ _)); exact BK304.out) hb); have n1_ := Aside0.mk (blk_below (g := gb312) (o := .cells #[.int .i64 t306, .int .i64 t307, .int .i64 t308, .int .i64 t309, .int .i64 t310, .int .i64 t311] 36 (0, 0)) (by (with_reducible repeat (first | refine blk_drewN ?_ _ | refine blk_drew ?_ | refine blk_alloc ?_ _)); refine blk_put (cs := #[.int .i64 t306, .int .i64 t307, .int .i64 t308, .int .i64 t309, .int .i64 t310, .int .i64 0]) ?_ 5 _ rfl; (with_reducible repeat (first | refine blk_drewN ?_ _ | refine blk_drew ?_ | refine blk_alloc ?_ _)); refine blk_put (cs := #[.int .i64 t306, .int .i64 t307, .int .i64 t308, .int .i64 t309, .int .i64 0, .int .i64 0]) ?_ 4 _ rfl; (with_reducible repeat (first | refine blk_drewN ?_ _ | refine blk_drew ?_ | refine blk_alloc ?_ _)); refine blk_put (cs := #[.int .i64 t306, .int .i64 t307, .int .i64 t308, .int .i64 0, .int .i64 0, .int .i64 0]) ?_ 3 _ rfl; (with_reducible repeat (first | refine blk_drewN ?_ _ | refine blk_drew ?_ | refine blk_alloc ?_ _)); refine blk_put (cs := #[.int .i64 t306, .int .i64 t307, .int .i64 0, .int .i64 0, .int .i64 0, .int .i64 0]) ?_ 2 _ rfl; (with_reducible repeat (first | refine blk_drewN ?_ _ | refine blk_drew ?_ | refine blk_alloc ?_ _)); refine blk_put (cs := #[.int .i64 t306, .int .i64 0, .int .i64 0, .int .i64 0, .int .i64 0, .int .i64 0]) ?_ 1 _ rfl; (with_reducible repeat (first | refine blk_drewN ?_ _ | refine blk_drew ?_ | refine blk_alloc ?_ _)); refine blk_put (cs := #[.int .i64 0, .int .i64 0, .int .i64 0, .int .i64 0, .int .i64 0, .int .i64 0]) ?_ 0 _ rfl; (with_reducible repeat (first | refine blk_drewN ?_ _ | refine blk_drew ?_ | refine blk_alloc ?_ _)); exact BK312.out) hb); have n2_ := Aside0.mk (below_step (by repeat (first | (with_reducible first | exact HB.out | apply below_alloc | apply pw_below_drewN | apply below_drew1 | refine below_set ?_ GE304.out | refine below_set ?_ GE312.out) | exact HB.out)) hb); clear BK304; clear BK312; clear HB; have BK304 := n0_; have BK312 := n1_; have HB := n2_; clear n0_ n1_ n2_; (try clear hb); (try clear hb2); (try clear hk); (try clear hi)) | ((with_reducible refine gate_callee (f := 22) rfl ?_); refine goesL_ (some 39) rfl rfl Try.func22 (by kernel_rfl) rfl #[.int .i64 a3, .int .i64 6] rfl (by (try simp only [List.map_toArray, List.map_cons, List.map_nil]); first | done | rfl | (simp only [List.length_drop, List.length_take]; rfl)) ?_; (with_reducible refine (interlocutorlaw1_within.calls a3 6 t314 _ A14.out).mono ?_); rintro e w' ⟨rfl, ⟨nd, rfl⟩⟩; refine ⟨_, rfl, ?_⟩))
      (try simp only [Act.put, List.setIfInBounds_toArray, List.set_cons_zero, List.set_cons_succ])
      go_cut [] (fun wc => ∃ (kq : Nat) (x313000_14 : Int) (x313001_14 : Int) (x313002_14 : Int) (x313003_14 : Int) (x313004_14 : Int) (x313005_14 : Int), Aside0 (interlocutorlaw1_CivilRight.j0 kq a0_0 a0_1 a0_2 a0_3 a0_4 a0_5 x313000_14 x313001_14 x313002_14 x313003_14 x313004_14 x313005_14 = some r) ∧ Aside0 (kq ≤ k) ∧ Aside0 (wc.heap[gb304]? = some (.cells #[.int .i64 a0_0, .int .i64 a0_1, .int .i64 a0_2, .int .i64 a0_3, .int .i64 a0_4, .int .i64 a0_5] 36 (0, 0))) ∧ Aside0 (wc.heap[gb312]? = some (.cells #[.int .i64 x313000_14, .int .i64 x313001_14, .int .i64 x313002_14, .int .i64 x313003_14, .int .i64 x313004_14, .int .i64 x313005_14] 36 (0, 0))) ∧ Aside0 (Below w.heap.size w wc))
      case first =>
        have H := HC15.out
        clear HC15
        by_cases c22 : t314 = 0
        · rw [if_pos c22] at H
          have c22b0 : (t314 == 0) = true := beq_iff_eq.mpr c22
          have c22b1 : (t314 != 0) = false := bne_eq_false_iff_eq.mpr c22
          clear c22
          (first | rw [c22b0] | (simp only [i64_w, i32_w]; rw [c22b0]) | skip)
          obtain ⟨y315, hy315⟩ : ∃ y_ : List Int, y_ = (([0, 1, 9999, 10000, a4] : List Int)) := ⟨_, rfl⟩
          replace H : ((interlocutorlaw1_within.f a4 5).bind fun t318 => (if 0 ≤ t318 then (if t318 < (y315.length : Int) then (interlocutorlaw1_CivilRight.j0 k a0_0 a0_1 a0_2 a0_3 a0_4 a0_5 (rd y315 t318) t307 t308 t309 t310 t311) else (none)) else (none))) = some r := by first | (rw [hy315]; with_reducible exact H) | (have H2_ := (Option.bind_some _ _).symm.trans H; rw [hy315]; with_reducible exact H2_) | (have H2_ := (Option.bind_some _ _).symm.trans H; with_reducible exact H2_) | with_reducible exact H | (rw [hy315]; exact H) | exact H
          have Ny315 := Aside0.mk hy315
          clear hy315
          replace H := Option.bind_eq_some_iff.mp H
          obtain ⟨t318, A230, H⟩ := H
          replace H : (if 0 ≤ t318 then (if t318 < (y315.length : Int) then (interlocutorlaw1_CivilRight.j0 k a0_0 a0_1 a0_2 a0_3 a0_4 a0_5 (rd y315 t318) t307 t308 t309 t310 t311) else (none)) else (none)) = some r := H
          have A23 := Aside0.mk A230
          clear A230
          by_cases c24 : 0 ≤ t318
          · rw [if_pos c24] at H
            have c24b0 : decide (0 ≤ t318) = true := decide_eq_true c24
            clear c24
            by_cases c25 : t318 < (y315.length : Int)
            · rw [if_pos c25] at H
              have c25b0 : decide (t318 < (y315.length : Int)) = true := decide_eq_true c25
              clear c25
              have H' := Aside0.mk H
              clear H
              go_wp2_with (first | ((with_reducible refine gate_dst (N := 43) rfl ?_); refine Kd.R_lit (Kd.int .i64) _ 3 ?hg (N := 43) ?hd (xs := ([0, 1, 9999, 10000, a4] : List Int)) (inner := [.int .i64 0, .int .i64 1, .int .i64 9999, .int .i64 10000, .int .i64 a4]) (ok := fun _ => True) (okp := fun _ => True) ?hr ?hp (fun _ hk => hk) trivial (Below.refl _ _) (Nat.le_refl _) (by simp) ?_; (case hd => rfl); (case hg => rfl); (case hr => first | (go_simp; done) | (go_simp; rfl)); (case hp => exact (Reps.one (show Kd.M (Kd.int .i64) _ _ _ 0 [.int .i64 0] from rfl) (Reps.one (show Kd.M (Kd.int .i64) _ _ _ 1 [.int .i64 1] from rfl) (Reps.one (show Kd.M (Kd.int .i64) _ _ _ 9999 [.int .i64 9999] from rfl) (Reps.one (show Kd.M (Kd.int .i64) _ _ _ 10000 [.int .i64 10000] from rfl) (Reps.one (show Kd.M (Kd.int .i64) _ _ _ a4 [.int .i64 a4] from rfl) (Reps.none _ _))))))); intro v316 w26 ho27 hb hg_ hnew_; clear hg_ hnew_; (first | rw [← Ny315.out] at ho27 | (simp only [Int.reduceToNat] at ho27; rw [← Ny315.out] at ho27)); have n0_ := Aside0.mk (Kd.R_lower ho27 (below_size (by repeat (first | (with_reducible first | exact HB.out | apply below_alloc | apply pw_below_drewN | apply below_drew1 | refine below_set ?_ GE304.out | refine below_set ?_ GE312.out) | exact HB.out)))); have n1_ := Aside0.mk (blk_below (g := gb304) (o := .cells #[.int .i64 a0_0, .int .i64 a0_1, .int .i64 a0_2, .int .i64 a0_3, .int .i64 a0_4, .int .i64 a0_5] 36 (0, 0)) (by (with_reducible repeat (first | refine blk_drewN ?_ _ | refine blk_drew ?_ | refine blk_alloc ?_ _)); exact BK304.out) hb); have n2_ := Aside0.mk (blk_below (g := gb312) (o := .cells #[.int .i64 t306, .int .i64 t307, .int .i64 t308, .int .i64 t309, .int .i64 t310, .int .i64 t311] 36 (0, 0)) (by (with_reducible repeat (first | refine blk_drewN ?_ _ | refine blk_drew ?_ | refine blk_alloc ?_ _)); exact BK312.out) hb); have n3_ := Aside0.mk (below_step (by repeat (first | (with_reducible first | exact HB.out | apply below_alloc | apply pw_below_drewN | apply below_drew1 | refine below_set ?_ GE304.out | refine below_set ?_ GE312.out) | exact HB.out)) hb); clear BK304; clear BK312; clear HB; have HO317 := n0_; have BK304 := n1_; have BK312 := n2_; have HB := n3_; clear n0_ n1_ n2_ n3_; clear hb ho27) | ((with_reducible refine gate_callee (f := 22) rfl ?_); refine goesL_ (some 45) rfl rfl Try.func22 (by kernel_rfl) rfl #[.int .i64 a4, .int .i64 5] rfl (by (try simp only [List.map_toArray, List.map_cons, List.map_nil]); first | done | rfl | (simp only [List.length_drop, List.length_take]; rfl)) ?_; (with_reducible refine (interlocutorlaw1_within.calls a4 5 t318 _ A23.out).mono ?_); rintro e w' ⟨rfl, ⟨nd, rfl⟩⟩; refine ⟨_, rfl, ?_⟩; (try (rw [drewN_self w26]; generalize hq_ : World.drewN w26 _ = w26; have n0_ : Aside0 (Kd.R (Kd.int .i64) 3 w26 w.heap.size (fun _ => True) v316 y315) := ⟨by rw [← hq_]; exact (by (with_reducible repeat (first | apply Kd.R_alloc | apply Kd.R_drewN | apply Kd.R_drew)); exact HO317.out)⟩; have n1_ : Aside0 (w26.heap[gb304]? = some (.cells #[.int .i64 a0_0, .int .i64 a0_1, .int .i64 a0_2, .int .i64 a0_3, .int .i64 a0_4, .int .i64 a0_5] 36 (0, 0))) := ⟨by rw [← hq_]; exact (by (with_reducible repeat (first | refine blk_drewN ?_ _ | refine blk_drew ?_ | refine blk_alloc ?_ _)); exact BK304.out)⟩; have n2_ : Aside0 (w26.heap[gb312]? = some (.cells #[.int .i64 t306, .int .i64 t307, .int .i64 t308, .int .i64 t309, .int .i64 t310, .int .i64 t311] 36 (0, 0))) := ⟨by rw [← hq_]; exact (by (with_reducible repeat (first | refine blk_drewN ?_ _ | refine blk_drew ?_ | refine blk_alloc ?_ _)); exact BK312.out)⟩; have n3_ : Aside0 (Below w.heap.size w w26) := ⟨by rw [← hq_]; exact (by repeat (first | (with_reducible first | exact HB.out | apply below_alloc | apply pw_below_drewN | apply below_drew1 | refine below_set ?_ GE304.out | refine below_set ?_ GE312.out) | exact HB.out))⟩; clear HO317 BK304 BK312 HB hq_; have HO317 := n0_; have BK304 := n1_; have BK312 := n2_; have HB := n3_; clear n0_ n1_ n2_ n3_)); obtain ⟨Ao28, co28, eo28⟩ := Kd.R_slice HO317.out; subst eo28; have p319 : 0 ≤ (t318 : Int) := of_decide_eq_true (by first | (with_reducible assumption) | assumption); have q319 : t318 < (y315.length : Int) := of_decide_eq_true (by first | (with_reducible assumption) | assumption); obtain ⟨ad319, e319, hx319_0⟩ := Kd.at_int (Kd.R_reads' HO317.out).2.2 t318 p319 q319; cases e319; replace p319 := eq_true p319; replace q319 := eq_true q319; have hnb29 := NB312_304.out; have hnc29 := NB304_312.out; have hcz30_0 : w26.cell? ⟨gb312, 0, none⟩ = some (.int .i64 t306) := (blk_cell BK312.out 0).trans rfl; have hcz30_1 : w26.cell? ⟨gb312, 1, none⟩ = some (.int .i64 t307) := (blk_cell BK312.out 1).trans rfl; have hcz30_2 : w26.cell? ⟨gb312, 2, none⟩ = some (.int .i64 t308) := (blk_cell BK312.out 2).trans rfl; have hcz30_3 : w26.cell? ⟨gb312, 3, none⟩ = some (.int .i64 t309) := (blk_cell BK312.out 3).trans rfl; have hcz30_4 : w26.cell? ⟨gb312, 4, none⟩ = some (.int .i64 t310) := (blk_cell BK312.out 4).trans rfl; have hcz30_5 : w26.cell? ⟨gb312, 5, none⟩ = some (.int .i64 t311) := (blk_cell BK312.out 5).trans rfl; have hfz30_0 := blk_frozen BK312.out 0; have hfz30_1 := blk_frozen BK312.out 1; have hfz30_2 := blk_frozen BK312.out 2; have hfz30_3 := blk_frozen BK312.out 3; have hfz30_4 := blk_frozen BK312.out 4; have hfz30_5 := blk_frozen BK312.out 5))
              go_meet
              case rel => exact ⟨_, (rd y315 t318), (t307), (t308), (t309), (t310), (t311), H', ⟨by first | omega | exact Nat.le_refl _⟩, ⟨by (with_reducible repeat (first | refine blk_drewN ?_ _ | refine blk_drew ?_ | refine blk_alloc ?_ _)); refine blk_far ?_ NB304_312.out _; (with_reducible repeat (first | refine blk_drewN ?_ _ | refine blk_drew ?_ | refine blk_alloc ?_ _)); exact BK304.out⟩, ⟨by (with_reducible repeat (first | refine blk_drewN ?_ _ | refine blk_drew ?_ | refine blk_alloc ?_ _)); refine blk_put (cs := #[.int .i64 t306, .int .i64 t307, .int .i64 t308, .int .i64 t309, .int .i64 t310, .int .i64 t311]) ?_ 0 _ rfl; (with_reducible repeat (first | refine blk_drewN ?_ _ | refine blk_drew ?_ | refine blk_alloc ?_ _)); exact BK312.out⟩, ⟨by repeat (first | (with_reducible first | exact HB.out | apply below_alloc | apply pw_below_drewN | apply below_drew1 | refine below_set ?_ GE304.out | refine below_set ?_ GE312.out) | exact HB.out)⟩⟩
            · rw [if_neg c25] at H
              exact absurd H (by simp)
          · rw [if_neg c24] at H
            exact absurd H (by simp)
        · rw [if_neg c22] at H
          have c22b0 : (t314 == 0) = false := beq_eq_false_iff_ne.mpr c22
          have c22b1 : (t314 != 0) = true := bne_iff_ne.mpr c22
          (first | rw [c22b0] | (simp only [i64_w, i32_w]; rw [c22b0]) | skip)
          by_cases c31 : t314 = 1
          · rw [if_pos c31] at H
            have c31b0 : (t314 == 1) = true := beq_iff_eq.mpr c31
            have c31b1 : (t314 != 1) = false := bne_eq_false_iff_eq.mpr c31
            clear c31
            obtain ⟨y320, hy320⟩ : ∃ y_ : List Int, y_ = (([0, 1, 2, 12, 13, a4] : List Int)) := ⟨_, rfl⟩
            replace H : ((interlocutorlaw1_within.f a4 6).bind fun t323 => (if 0 ≤ t323 then (if t323 < (y320.length : Int) then (interlocutorlaw1_CivilRight.j0 k a0_0 a0_1 a0_2 a0_3 a0_4 a0_5 t306 (rd y320 t323) t308 t309 t310 t311) else (none)) else (none))) = some r := by first | (rw [hy320]; with_reducible exact H) | (have H2_ := (Option.bind_some _ _).symm.trans H; rw [hy320]; with_reducible exact H2_) | (have H2_ := (Option.bind_some _ _).symm.trans H; with_reducible exact H2_) | with_reducible exact H | (rw [hy320]; exact H) | exact H
            have Ny320 := Aside0.mk hy320
            clear hy320
            replace H := Option.bind_eq_some_iff.mp H
            obtain ⟨t323, A320, H⟩ := H
            replace H : (if 0 ≤ t323 then (if t323 < (y320.length : Int) then (interlocutorlaw1_CivilRight.j0 k a0_0 a0_1 a0_2 a0_3 a0_4 a0_5 t306 (rd y320 t323) t308 t309 t310 t311) else (none)) else (none)) = some r := H
            have A32 := Aside0.mk A320
            clear A320
            by_cases c33 : 0 ≤ t323
            · rw [if_pos c33] at H
              have c33b0 : decide (0 ≤ t323) = true := decide_eq_true c33
              clear c33
              by_cases c34 : t323 < (y320.length : Int)
              · rw [if_pos c34] at H
                have c34b0 : decide (t323 < (y320.length : Int)) = true := decide_eq_true c34
                clear c34
                have H' := Aside0.mk H
                clear H
                go_wp2_with (first | ((with_reducible refine gate_dst (N := 52) rfl ?_); refine Kd.R_lit (Kd.int .i64) _ 3 ?hg (N := 52) ?hd (xs := ([0, 1, 2, 12, 13, a4] : List Int)) (inner := [.int .i64 0, .int .i64 1, .int .i64 2, .int .i64 12, .int .i64 13, .int .i64 a4]) (ok := fun _ => True) (okp := fun _ => True) ?hr ?hp (fun _ hk => hk) trivial (Below.refl _ _) (Nat.le_refl _) (by simp) ?_; (case hd => rfl); (case hg => rfl); (case hr => first | (go_simp; done) | (go_simp; rfl)); (case hp => exact (Reps.one (show Kd.M (Kd.int .i64) _ _ _ 0 [.int .i64 0] from rfl) (Reps.one (show Kd.M (Kd.int .i64) _ _ _ 1 [.int .i64 1] from rfl) (Reps.one (show Kd.M (Kd.int .i64) _ _ _ 2 [.int .i64 2] from rfl) (Reps.one (show Kd.M (Kd.int .i64) _ _ _ 12 [.int .i64 12] from rfl) (Reps.one (show Kd.M (Kd.int .i64) _ _ _ 13 [.int .i64 13] from rfl) (Reps.one (show Kd.M (Kd.int .i64) _ _ _ a4 [.int .i64 a4] from rfl) (Reps.none _ _)))))))); intro v321 w35 ho36 hb hg_ hnew_; clear hg_ hnew_; (first | rw [← Ny320.out] at ho36 | (simp only [Int.reduceToNat] at ho36; rw [← Ny320.out] at ho36)); have n0_ := Aside0.mk (Kd.R_lower ho36 (below_size (by repeat (first | (with_reducible first | exact HB.out | apply below_alloc | apply pw_below_drewN | apply below_drew1 | refine below_set ?_ GE304.out | refine below_set ?_ GE312.out) | exact HB.out)))); have n1_ := Aside0.mk (blk_below (g := gb304) (o := .cells #[.int .i64 a0_0, .int .i64 a0_1, .int .i64 a0_2, .int .i64 a0_3, .int .i64 a0_4, .int .i64 a0_5] 36 (0, 0)) (by (with_reducible repeat (first | refine blk_drewN ?_ _ | refine blk_drew ?_ | refine blk_alloc ?_ _)); exact BK304.out) hb); have n2_ := Aside0.mk (blk_below (g := gb312) (o := .cells #[.int .i64 t306, .int .i64 t307, .int .i64 t308, .int .i64 t309, .int .i64 t310, .int .i64 t311] 36 (0, 0)) (by (with_reducible repeat (first | refine blk_drewN ?_ _ | refine blk_drew ?_ | refine blk_alloc ?_ _)); exact BK312.out) hb); have n3_ := Aside0.mk (below_step (by repeat (first | (with_reducible first | exact HB.out | apply below_alloc | apply pw_below_drewN | apply below_drew1 | refine below_set ?_ GE304.out | refine below_set ?_ GE312.out) | exact HB.out)) hb); clear BK304; clear BK312; clear HB; have HO322 := n0_; have BK304 := n1_; have BK312 := n2_; have HB := n3_; clear n0_ n1_ n2_ n3_; clear hb ho36) | ((with_reducible refine gate_callee (f := 22) rfl ?_); refine goesL_ (some 54) rfl rfl Try.func22 (by kernel_rfl) rfl #[.int .i64 a4, .int .i64 6] rfl (by (try simp only [List.map_toArray, List.map_cons, List.map_nil]); first | done | rfl | (simp only [List.length_drop, List.length_take]; rfl)) ?_; (with_reducible refine (interlocutorlaw1_within.calls a4 6 t323 _ A32.out).mono ?_); rintro e w' ⟨rfl, ⟨nd, rfl⟩⟩; refine ⟨_, rfl, ?_⟩; (try (rw [drewN_self w35]; generalize hq_ : World.drewN w35 _ = w35; have n0_ : Aside0 (Kd.R (Kd.int .i64) 3 w35 w.heap.size (fun _ => True) v321 y320) := ⟨by rw [← hq_]; exact (by (with_reducible repeat (first | apply Kd.R_alloc | apply Kd.R_drewN | apply Kd.R_drew)); exact HO322.out)⟩; have n1_ : Aside0 (w35.heap[gb304]? = some (.cells #[.int .i64 a0_0, .int .i64 a0_1, .int .i64 a0_2, .int .i64 a0_3, .int .i64 a0_4, .int .i64 a0_5] 36 (0, 0))) := ⟨by rw [← hq_]; exact (by (with_reducible repeat (first | refine blk_drewN ?_ _ | refine blk_drew ?_ | refine blk_alloc ?_ _)); exact BK304.out)⟩; have n2_ : Aside0 (w35.heap[gb312]? = some (.cells #[.int .i64 t306, .int .i64 t307, .int .i64 t308, .int .i64 t309, .int .i64 t310, .int .i64 t311] 36 (0, 0))) := ⟨by rw [← hq_]; exact (by (with_reducible repeat (first | refine blk_drewN ?_ _ | refine blk_drew ?_ | refine blk_alloc ?_ _)); exact BK312.out)⟩; have n3_ : Aside0 (Below w.heap.size w w35) := ⟨by rw [← hq_]; exact (by repeat (first | (with_reducible first | exact HB.out | apply below_alloc | apply pw_below_drewN | apply below_drew1 | refine below_set ?_ GE304.out | refine below_set ?_ GE312.out) | exact HB.out))⟩; clear HO322 BK304 BK312 HB hq_; have HO322 := n0_; have BK304 := n1_; have BK312 := n2_; have HB := n3_; clear n0_ n1_ n2_ n3_)); obtain ⟨Ao37, co37, eo37⟩ := Kd.R_slice HO322.out; subst eo37; have p324 : 0 ≤ (t323 : Int) := of_decide_eq_true (by first | (with_reducible assumption) | assumption); have q324 : t323 < (y320.length : Int) := of_decide_eq_true (by first | (with_reducible assumption) | assumption); obtain ⟨ad324, e324, hx324_0⟩ := Kd.at_int (Kd.R_reads' HO322.out).2.2 t323 p324 q324; cases e324; replace p324 := eq_true p324; replace q324 := eq_true q324; have hnb38 := NB312_304.out; have hnc38 := NB304_312.out; have hcz39_0 : w35.cell? ⟨gb312, 0, none⟩ = some (.int .i64 t306) := (blk_cell BK312.out 0).trans rfl; have hcz39_1 : w35.cell? ⟨gb312, 1, none⟩ = some (.int .i64 t307) := (blk_cell BK312.out 1).trans rfl; have hcz39_2 : w35.cell? ⟨gb312, 2, none⟩ = some (.int .i64 t308) := (blk_cell BK312.out 2).trans rfl; have hcz39_3 : w35.cell? ⟨gb312, 3, none⟩ = some (.int .i64 t309) := (blk_cell BK312.out 3).trans rfl; have hcz39_4 : w35.cell? ⟨gb312, 4, none⟩ = some (.int .i64 t310) := (blk_cell BK312.out 4).trans rfl; have hcz39_5 : w35.cell? ⟨gb312, 5, none⟩ = some (.int .i64 t311) := (blk_cell BK312.out 5).trans rfl; have hfz39_0 := blk_frozen BK312.out 0; have hfz39_1 := blk_frozen BK312.out 1; have hfz39_2 := blk_frozen BK312.out 2; have hfz39_3 := blk_frozen BK312.out 3; have hfz39_4 := blk_frozen BK312.out 4; have hfz39_5 := blk_frozen BK312.out 5))
                go_meet
                case rel => exact ⟨_, (t306), (rd y320 t323), (t308), (t309), (t310), (t311), H', ⟨by first | omega | exact Nat.le_refl _⟩, ⟨by (with_reducible repeat (first | refine blk_drewN ?_ _ | refine blk_drew ?_ | refine blk_alloc ?_ _)); refine blk_far ?_ NB304_312.out _; (with_reducible repeat (first | refine blk_drewN ?_ _ | refine blk_drew ?_ | refine blk_alloc ?_ _)); exact BK304.out⟩, ⟨by (with_reducible repeat (first | refine blk_drewN ?_ _ | refine blk_drew ?_ | refine blk_alloc ?_ _)); refine blk_put (cs := #[.int .i64 t306, .int .i64 t307, .int .i64 t308, .int .i64 t309, .int .i64 t310, .int .i64 t311]) ?_ 1 _ rfl; (with_reducible repeat (first | refine blk_drewN ?_ _ | refine blk_drew ?_ | refine blk_alloc ?_ _)); exact BK312.out⟩, ⟨by repeat (first | (with_reducible first | exact HB.out | apply below_alloc | apply pw_below_drewN | apply below_drew1 | refine below_set ?_ GE304.out | refine below_set ?_ GE312.out) | exact HB.out)⟩⟩
              · rw [if_neg c34] at H
                exact absurd H (by simp)
            · rw [if_neg c33] at H
              exact absurd H (by simp)
          · rw [if_neg c31] at H
            have c31b0 : (t314 == 1) = false := beq_eq_false_iff_ne.mpr c31
            have c31b1 : (t314 != 1) = true := bne_iff_ne.mpr c31
            by_cases c40 : t314 = 2
            · rw [if_pos c40] at H
              have c40b0 : (t314 == 2) = true := beq_iff_eq.mpr c40
              have c40b1 : (t314 != 2) = false := bne_eq_false_iff_eq.mpr c40
              clear c40
              obtain ⟨y325, hy325⟩ : ∃ y_ : List Int, y_ = (([0, 1, 28, 29, 30, 31, 32, a4] : List Int)) := ⟨_, rfl⟩
              replace H : ((interlocutorlaw1_within.f a4 8).bind fun t328 => (if 0 ≤ t328 then (if t328 < (y325.length : Int) then (interlocutorlaw1_CivilRight.j0 k a0_0 a0_1 a0_2 a0_3 a0_4 a0_5 t306 t307 (rd y325 t328) t309 t310 t311) else (none)) else (none))) = some r := by first | (rw [hy325]; with_reducible exact H) | (have H2_ := (Option.bind_some _ _).symm.trans H; rw [hy325]; with_reducible exact H2_) | (have H2_ := (Option.bind_some _ _).symm.trans H; with_reducible exact H2_) | with_reducible exact H | (rw [hy325]; exact H) | exact H
              have Ny325 := Aside0.mk hy325
              clear hy325
              replace H := Option.bind_eq_some_iff.mp H
              obtain ⟨t328, A410, H⟩ := H
              replace H : (if 0 ≤ t328 then (if t328 < (y325.length : Int) then (interlocutorlaw1_CivilRight.j0 k a0_0 a0_1 a0_2 a0_3 a0_4 a0_5 t306 t307 (rd y325 t328) t309 t310 t311) else (none)) else (none)) = some r := H
              have A41 := Aside0.mk A410
              clear A410
              by_cases c42 : 0 ≤ t328
              · rw [if_pos c42] at H
                have c42b0 : decide (0 ≤ t328) = true := decide_eq_true c42
                clear c42
                by_cases c43 : t328 < (y325.length : Int)
                · rw [if_pos c43] at H
                  have c43b0 : decide (t328 < (y325.length : Int)) = true := decide_eq_true c43
                  clear c43
                  have H' := Aside0.mk H
                  clear H
                  go_wp2_with (first | ((with_reducible refine gate_dst (N := 61) rfl ?_); refine Kd.R_lit (Kd.int .i64) _ 3 ?hg (N := 61) ?hd (xs := ([0, 1, 28, 29, 30, 31, 32, a4] : List Int)) (inner := [.int .i64 0, .int .i64 1, .int .i64 28, .int .i64 29, .int .i64 30, .int .i64 31, .int .i64 32, .int .i64 a4]) (ok := fun _ => True) (okp := fun _ => True) ?hr ?hp (fun _ hk => hk) trivial (Below.refl _ _) (Nat.le_refl _) (by simp) ?_; (case hd => rfl); (case hg => rfl); (case hr => first | (go_simp; done) | (go_simp; rfl)); (case hp => exact (Reps.one (show Kd.M (Kd.int .i64) _ _ _ 0 [.int .i64 0] from rfl) (Reps.one (show Kd.M (Kd.int .i64) _ _ _ 1 [.int .i64 1] from rfl) (Reps.one (show Kd.M (Kd.int .i64) _ _ _ 28 [.int .i64 28] from rfl) (Reps.one (show Kd.M (Kd.int .i64) _ _ _ 29 [.int .i64 29] from rfl) (Reps.one (show Kd.M (Kd.int .i64) _ _ _ 30 [.int .i64 30] from rfl) (Reps.one (show Kd.M (Kd.int .i64) _ _ _ 31 [.int .i64 31] from rfl) (Reps.one (show Kd.M (Kd.int .i64) _ _ _ 32 [.int .i64 32] from rfl) (Reps.one (show Kd.M (Kd.int .i64) _ _ _ a4 [.int .i64 a4] from rfl) (Reps.none _ _)))))))))); intro v326 w44 ho45 hb hg_ hnew_; clear hg_ hnew_; (first | rw [← Ny325.out] at ho45 | (simp only [Int.reduceToNat] at ho45; rw [← Ny325.out] at ho45)); have n0_ := Aside0.mk (Kd.R_lower ho45 (below_size (by repeat (first | (with_reducible first | exact HB.out | apply below_alloc | apply pw_below_drewN | apply below_drew1 | refine below_set ?_ GE304.out | refine below_set ?_ GE312.out) | exact HB.out)))); have n1_ := Aside0.mk (blk_below (g := gb304) (o := .cells #[.int .i64 a0_0, .int .i64 a0_1, .int .i64 a0_2, .int .i64 a0_3, .int .i64 a0_4, .int .i64 a0_5] 36 (0, 0)) (by (with_reducible repeat (first | refine blk_drewN ?_ _ | refine blk_drew ?_ | refine blk_alloc ?_ _)); exact BK304.out) hb); have n2_ := Aside0.mk (blk_below (g := gb312) (o := .cells #[.int .i64 t306, .int .i64 t307, .int .i64 t308, .int .i64 t309, .int .i64 t310, .int .i64 t311] 36 (0, 0)) (by (with_reducible repeat (first | refine blk_drewN ?_ _ | refine blk_drew ?_ | refine blk_alloc ?_ _)); exact BK312.out) hb); have n3_ := Aside0.mk (below_step (by repeat (first | (with_reducible first | exact HB.out | apply below_alloc | apply pw_below_drewN | apply below_drew1 | refine below_set ?_ GE304.out | refine below_set ?_ GE312.out) | exact HB.out)) hb); clear BK304; clear BK312; clear HB; have HO327 := n0_; have BK304 := n1_; have BK312 := n2_; have HB := n3_; clear n0_ n1_ n2_ n3_; clear hb ho45) | ((with_reducible refine gate_callee (f := 22) rfl ?_); refine goesL_ (some 63) rfl rfl Try.func22 (by kernel_rfl) rfl #[.int .i64 a4, .int .i64 8] rfl (by (try simp only [List.map_toArray, List.map_cons, List.map_nil]); first | done | rfl | (simp only [List.length_drop, List.length_take]; rfl)) ?_; (with_reducible refine (interlocutorlaw1_within.calls a4 8 t328 _ A41.out).mono ?_); rintro e w' ⟨rfl, ⟨nd, rfl⟩⟩; refine ⟨_, rfl, ?_⟩; (try (rw [drewN_self w44]; generalize hq_ : World.drewN w44 _ = w44; have n0_ : Aside0 (Kd.R (Kd.int .i64) 3 w44 w.heap.size (fun _ => True) v326 y325) := ⟨by rw [← hq_]; exact (by (with_reducible repeat (first | apply Kd.R_alloc | apply Kd.R_drewN | apply Kd.R_drew)); exact HO327.out)⟩; have n1_ : Aside0 (w44.heap[gb304]? = some (.cells #[.int .i64 a0_0, .int .i64 a0_1, .int .i64 a0_2, .int .i64 a0_3, .int .i64 a0_4, .int .i64 a0_5] 36 (0, 0))) := ⟨by rw [← hq_]; exact (by (with_reducible repeat (first | refine blk_drewN ?_ _ | refine blk_drew ?_ | refine blk_alloc ?_ _)); exact BK304.out)⟩; have n2_ : Aside0 (w44.heap[gb312]? = some (.cells #[.int .i64 t306, .int .i64 t307, .int .i64 t308, .int .i64 t309, .int .i64 t310, .int .i64 t311] 36 (0, 0))) := ⟨by rw [← hq_]; exact (by (with_reducible repeat (first | refine blk_drewN ?_ _ | refine blk_drew ?_ | refine blk_alloc ?_ _)); exact BK312.out)⟩; have n3_ : Aside0 (Below w.heap.size w w44) := ⟨by rw [← hq_]; exact (by repeat (first | (with_reducible first | exact HB.out | apply below_alloc | apply pw_below_drewN | apply below_drew1 | refine below_set ?_ GE304.out | refine below_set ?_ GE312.out) | exact HB.out))⟩; clear HO327 BK304 BK312 HB hq_; have HO327 := n0_; have BK304 := n1_; have BK312 := n2_; have HB := n3_; clear n0_ n1_ n2_ n3_)); obtain ⟨Ao46, co46, eo46⟩ := Kd.R_slice HO327.out; subst eo46; have p329 : 0 ≤ (t328 : Int) := of_decide_eq_true (by first | (with_reducible assumption) | assumption); have q329 : t328 < (y325.length : Int) := of_decide_eq_true (by first | (with_reducible assumption) | assumption); obtain ⟨ad329, e329, hx329_0⟩ := Kd.at_int (Kd.R_reads' HO327.out).2.2 t328 p329 q329; cases e329; replace p329 := eq_true p329; replace q329 := eq_true q329; have hnb47 := NB312_304.out; have hnc47 := NB304_312.out; have hcz48_0 : w44.cell? ⟨gb312, 0, none⟩ = some (.int .i64 t306) := (blk_cell BK312.out 0).trans rfl; have hcz48_1 : w44.cell? ⟨gb312, 1, none⟩ = some (.int .i64 t307) := (blk_cell BK312.out 1).trans rfl; have hcz48_2 : w44.cell? ⟨gb312, 2, none⟩ = some (.int .i64 t308) := (blk_cell BK312.out 2).trans rfl; have hcz48_3 : w44.cell? ⟨gb312, 3, none⟩ = some (.int .i64 t309) := (blk_cell BK312.out 3).trans rfl; have hcz48_4 : w44.cell? ⟨gb312, 4, none⟩ = some (.int .i64 t310) := (blk_cell BK312.out 4).trans rfl; have hcz48_5 : w44.cell? ⟨gb312, 5, none⟩ = some (.int .i64 t311) := (blk_cell BK312.out 5).trans rfl; have hfz48_0 := blk_frozen BK312.out 0; have hfz48_1 := blk_frozen BK312.out 1; have hfz48_2 := blk_frozen BK312.out 2; have hfz48_3 := blk_frozen BK312.out 3; have hfz48_4 := blk_frozen BK312.out 4; have hfz48_5 := blk_frozen BK312.out 5))
                  go_meet
                  case rel => exact ⟨_, (t306), (t307), (rd y325 t328), (t309), (t310), (t311), H', ⟨by first | omega | exact Nat.le_refl _⟩, ⟨by (with_reducible repeat (first | refine blk_drewN ?_ _ | refine blk_drew ?_ | refine blk_alloc ?_ _)); refine blk_far ?_ NB304_312.out _; (with_reducible repeat (first | refine blk_drewN ?_ _ | refine blk_drew ?_ | refine blk_alloc ?_ _)); exact BK304.out⟩, ⟨by (with_reducible repeat (first | refine blk_drewN ?_ _ | refine blk_drew ?_ | refine blk_alloc ?_ _)); refine blk_put (cs := #[.int .i64 t306, .int .i64 t307, .int .i64 t308, .int .i64 t309, .int .i64 t310, .int .i64 t311]) ?_ 2 _ rfl; (with_reducible repeat (first | refine blk_drewN ?_ _ | refine blk_drew ?_ | refine blk_alloc ?_ _)); exact BK312.out⟩, ⟨by repeat (first | (with_reducible first | exact HB.out | apply below_alloc | apply pw_below_drewN | apply below_drew1 | refine below_set ?_ GE304.out | refine below_set ?_ GE312.out) | exact HB.out)⟩⟩
                · rw [if_neg c43] at H
                  exact absurd H (by simp)
              · rw [if_neg c42] at H
                exact absurd H (by simp)
            · rw [if_neg c40] at H
              have c40b0 : (t314 == 2) = false := beq_eq_false_iff_ne.mpr c40
              have c40b1 : (t314 != 2) = true := bne_iff_ne.mpr c40
              by_cases c49 : t314 = 3
              · rw [if_pos c49] at H
                have c49b0 : (t314 == 3) = true := beq_iff_eq.mpr c49
                have c49b1 : (t314 != 3) = false := bne_eq_false_iff_eq.mpr c49
                clear c49
                obtain ⟨y330, hy330⟩ : ∃ y_ : List Int, y_ = (([(-1), 0, 23, 24, a4] : List Int)) := ⟨_, rfl⟩
                replace H : ((interlocutorlaw1_within.f a4 5).bind fun t333 => (if 0 ≤ t333 then (if t333 < (y330.length : Int) then (interlocutorlaw1_CivilRight.j0 k a0_0 a0_1 a0_2 a0_3 a0_4 a0_5 t306 t307 t308 (rd y330 t333) t310 t311) else (none)) else (none))) = some r := by first | (rw [hy330]; with_reducible exact H) | (have H2_ := (Option.bind_some _ _).symm.trans H; rw [hy330]; with_reducible exact H2_) | (have H2_ := (Option.bind_some _ _).symm.trans H; with_reducible exact H2_) | with_reducible exact H | (rw [hy330]; exact H) | exact H
                have Ny330 := Aside0.mk hy330
                clear hy330
                replace H := Option.bind_eq_some_iff.mp H
                obtain ⟨t333, A500, H⟩ := H
                replace H : (if 0 ≤ t333 then (if t333 < (y330.length : Int) then (interlocutorlaw1_CivilRight.j0 k a0_0 a0_1 a0_2 a0_3 a0_4 a0_5 t306 t307 t308 (rd y330 t333) t310 t311) else (none)) else (none)) = some r := H
                have A50 := Aside0.mk A500
                clear A500
                by_cases c51 : 0 ≤ t333
                · rw [if_pos c51] at H
                  have c51b0 : decide (0 ≤ t333) = true := decide_eq_true c51
                  clear c51
                  by_cases c52 : t333 < (y330.length : Int)
                  · rw [if_pos c52] at H
                    have c52b0 : decide (t333 < (y330.length : Int)) = true := decide_eq_true c52
                    clear c52
                    have H' := Aside0.mk H
                    clear H
                    go_wp2_with (first | ((with_reducible refine gate_dst (N := 70) rfl ?_); refine Kd.R_lit (Kd.int .i64) _ 3 ?hg (N := 70) ?hd (xs := ([(-1), 0, 23, 24, a4] : List Int)) (inner := [.int .i64 (-1), .int .i64 0, .int .i64 23, .int .i64 24, .int .i64 a4]) (ok := fun _ => True) (okp := fun _ => True) ?hr ?hp (fun _ hk => hk) trivial (Below.refl _ _) (Nat.le_refl _) (by simp) ?_; (case hd => rfl); (case hg => rfl); (case hr => first | (go_simp; done) | (go_simp; rfl)); (case hp => exact (Reps.one (show Kd.M (Kd.int .i64) _ _ _ (-1) [.int .i64 (-1)] from rfl) (Reps.one (show Kd.M (Kd.int .i64) _ _ _ 0 [.int .i64 0] from rfl) (Reps.one (show Kd.M (Kd.int .i64) _ _ _ 23 [.int .i64 23] from rfl) (Reps.one (show Kd.M (Kd.int .i64) _ _ _ 24 [.int .i64 24] from rfl) (Reps.one (show Kd.M (Kd.int .i64) _ _ _ a4 [.int .i64 a4] from rfl) (Reps.none _ _))))))); intro v331 w53 ho54 hb hg_ hnew_; clear hg_ hnew_; (first | rw [← Ny330.out] at ho54 | (simp only [Int.reduceToNat] at ho54; rw [← Ny330.out] at ho54)); have n0_ := Aside0.mk (Kd.R_lower ho54 (below_size (by repeat (first | (with_reducible first | exact HB.out | apply below_alloc | apply pw_below_drewN | apply below_drew1 | refine below_set ?_ GE304.out | refine below_set ?_ GE312.out) | exact HB.out)))); have n1_ := Aside0.mk (blk_below (g := gb304) (o := .cells #[.int .i64 a0_0, .int .i64 a0_1, .int .i64 a0_2, .int .i64 a0_3, .int .i64 a0_4, .int .i64 a0_5] 36 (0, 0)) (by (with_reducible repeat (first | refine blk_drewN ?_ _ | refine blk_drew ?_ | refine blk_alloc ?_ _)); exact BK304.out) hb); have n2_ := Aside0.mk (blk_below (g := gb312) (o := .cells #[.int .i64 t306, .int .i64 t307, .int .i64 t308, .int .i64 t309, .int .i64 t310, .int .i64 t311] 36 (0, 0)) (by (with_reducible repeat (first | refine blk_drewN ?_ _ | refine blk_drew ?_ | refine blk_alloc ?_ _)); exact BK312.out) hb); have n3_ := Aside0.mk (below_step (by repeat (first | (with_reducible first | exact HB.out | apply below_alloc | apply pw_below_drewN | apply below_drew1 | refine below_set ?_ GE304.out | refine below_set ?_ GE312.out) | exact HB.out)) hb); clear BK304; clear BK312; clear HB; have HO332 := n0_; have BK304 := n1_; have BK312 := n2_; have HB := n3_; clear n0_ n1_ n2_ n3_; clear hb ho54) | ((with_reducible refine gate_callee (f := 22) rfl ?_); refine goesL_ (some 72) rfl rfl Try.func22 (by kernel_rfl) rfl #[.int .i64 a4, .int .i64 5] rfl (by (try simp only [List.map_toArray, List.map_cons, List.map_nil]); first | done | rfl | (simp only [List.length_drop, List.length_take]; rfl)) ?_; (with_reducible refine (interlocutorlaw1_within.calls a4 5 t333 _ A50.out).mono ?_); rintro e w' ⟨rfl, ⟨nd, rfl⟩⟩; refine ⟨_, rfl, ?_⟩; (try (rw [drewN_self w53]; generalize hq_ : World.drewN w53 _ = w53; have n0_ : Aside0 (Kd.R (Kd.int .i64) 3 w53 w.heap.size (fun _ => True) v331 y330) := ⟨by rw [← hq_]; exact (by (with_reducible repeat (first | apply Kd.R_alloc | apply Kd.R_drewN | apply Kd.R_drew)); exact HO332.out)⟩; have n1_ : Aside0 (w53.heap[gb304]? = some (.cells #[.int .i64 a0_0, .int .i64 a0_1, .int .i64 a0_2, .int .i64 a0_3, .int .i64 a0_4, .int .i64 a0_5] 36 (0, 0))) := ⟨by rw [← hq_]; exact (by (with_reducible repeat (first | refine blk_drewN ?_ _ | refine blk_drew ?_ | refine blk_alloc ?_ _)); exact BK304.out)⟩; have n2_ : Aside0 (w53.heap[gb312]? = some (.cells #[.int .i64 t306, .int .i64 t307, .int .i64 t308, .int .i64 t309, .int .i64 t310, .int .i64 t311] 36 (0, 0))) := ⟨by rw [← hq_]; exact (by (with_reducible repeat (first | refine blk_drewN ?_ _ | refine blk_drew ?_ | refine blk_alloc ?_ _)); exact BK312.out)⟩; have n3_ : Aside0 (Below w.heap.size w w53) := ⟨by rw [← hq_]; exact (by repeat (first | (with_reducible first | exact HB.out | apply below_alloc | apply pw_below_drewN | apply below_drew1 | refine below_set ?_ GE304.out | refine below_set ?_ GE312.out) | exact HB.out))⟩; clear HO332 BK304 BK312 HB hq_; have HO332 := n0_; have BK304 := n1_; have BK312 := n2_; have HB := n3_; clear n0_ n1_ n2_ n3_)); obtain ⟨Ao55, co55, eo55⟩ := Kd.R_slice HO332.out; subst eo55; have p334 : 0 ≤ (t333 : Int) := of_decide_eq_true (by first | (with_reducible assumption) | assumption); have q334 : t333 < (y330.length : Int) := of_decide_eq_true (by first | (with_reducible assumption) | assumption); obtain ⟨ad334, e334, hx334_0⟩ := Kd.at_int (Kd.R_reads' HO332.out).2.2 t333 p334 q334; cases e334; replace p334 := eq_true p334; replace q334 := eq_true q334; have hnb56 := NB312_304.out; have hnc56 := NB304_312.out; have hcz57_0 : w53.cell? ⟨gb312, 0, none⟩ = some (.int .i64 t306) := (blk_cell BK312.out 0).trans rfl; have hcz57_1 : w53.cell? ⟨gb312, 1, none⟩ = some (.int .i64 t307) := (blk_cell BK312.out 1).trans rfl; have hcz57_2 : w53.cell? ⟨gb312, 2, none⟩ = some (.int .i64 t308) := (blk_cell BK312.out 2).trans rfl; have hcz57_3 : w53.cell? ⟨gb312, 3, none⟩ = some (.int .i64 t309) := (blk_cell BK312.out 3).trans rfl; have hcz57_4 : w53.cell? ⟨gb312, 4, none⟩ = some (.int .i64 t310) := (blk_cell BK312.out 4).trans rfl; have hcz57_5 : w53.cell? ⟨gb312, 5, none⟩ = some (.int .i64 t311) := (blk_cell BK312.out 5).trans rfl; have hfz57_0 := blk_frozen BK312.out 0; have hfz57_1 := blk_frozen BK312.out 1; have hfz57_2 := blk_frozen BK312.out 2; have hfz57_3 := blk_frozen BK312.out 3; have hfz57_4 := blk_frozen BK312.out 4; have hfz57_5 := blk_frozen BK312.out 5))
                    go_meet
                    case rel => exact ⟨_, (t306), (t307), (t308), (rd y330 t333), (t310), (t311), H', ⟨by first | omega | exact Nat.le_refl _⟩, ⟨by (with_reducible repeat (first | refine blk_drewN ?_ _ | refine blk_drew ?_ | refine blk_alloc ?_ _)); refine blk_far ?_ NB304_312.out _; (with_reducible repeat (first | refine blk_drewN ?_ _ | refine blk_drew ?_ | refine blk_alloc ?_ _)); exact BK304.out⟩, ⟨by (with_reducible repeat (first | refine blk_drewN ?_ _ | refine blk_drew ?_ | refine blk_alloc ?_ _)); refine blk_put (cs := #[.int .i64 t306, .int .i64 t307, .int .i64 t308, .int .i64 t309, .int .i64 t310, .int .i64 t311]) ?_ 3 _ rfl; (with_reducible repeat (first | refine blk_drewN ?_ _ | refine blk_drew ?_ | refine blk_alloc ?_ _)); exact BK312.out⟩, ⟨by repeat (first | (with_reducible first | exact HB.out | apply below_alloc | apply pw_below_drewN | apply below_drew1 | refine below_set ?_ GE304.out | refine below_set ?_ GE312.out) | exact HB.out)⟩⟩
                  · rw [if_neg c52] at H
                    exact absurd H (by simp)
                · rw [if_neg c51] at H
                  exact absurd H (by simp)
              · rw [if_neg c49] at H
                have c49b0 : (t314 == 3) = false := beq_eq_false_iff_ne.mpr c49
                have c49b1 : (t314 != 3) = true := bne_iff_ne.mpr c49
                by_cases c58 : t314 = 4
                · rw [if_pos c58] at H
                  have c58b0 : (t314 == 4) = true := beq_iff_eq.mpr c58
                  have c58b1 : (t314 != 4) = false := bne_eq_false_iff_eq.mpr c58
                  clear c58
                  obtain ⟨y335, hy335⟩ : ∃ y_ : List Int, y_ = (([(-1), 0, 59, 60, a4] : List Int)) := ⟨_, rfl⟩
                  replace H : ((interlocutorlaw1_within.f a4 5).bind fun t338 => (if 0 ≤ t338 then (if t338 < (y335.length : Int) then (interlocutorlaw1_CivilRight.j0 k a0_0 a0_1 a0_2 a0_3 a0_4 a0_5 t306 t307 t308 t309 (rd y335 t338) t311) else (none)) else (none))) = some r := by first | (rw [hy335]; with_reducible exact H) | (have H2_ := (Option.bind_some _ _).symm.trans H; rw [hy335]; with_reducible exact H2_) | (have H2_ := (Option.bind_some _ _).symm.trans H; with_reducible exact H2_) | with_reducible exact H | (rw [hy335]; exact H) | exact H
                  have Ny335 := Aside0.mk hy335
                  clear hy335
                  replace H := Option.bind_eq_some_iff.mp H
                  obtain ⟨t338, A590, H⟩ := H
                  replace H : (if 0 ≤ t338 then (if t338 < (y335.length : Int) then (interlocutorlaw1_CivilRight.j0 k a0_0 a0_1 a0_2 a0_3 a0_4 a0_5 t306 t307 t308 t309 (rd y335 t338) t311) else (none)) else (none)) = some r := H
                  have A59 := Aside0.mk A590
                  clear A590
                  by_cases c60 : 0 ≤ t338
                  · rw [if_pos c60] at H
                    have c60b0 : decide (0 ≤ t338) = true := decide_eq_true c60
                    clear c60
                    by_cases c61 : t338 < (y335.length : Int)
                    · rw [if_pos c61] at H
                      have c61b0 : decide (t338 < (y335.length : Int)) = true := decide_eq_true c61
                      clear c61
                      have H' := Aside0.mk H
                      clear H
                      go_wp2_with (first | ((with_reducible refine gate_dst (N := 79) rfl ?_); refine Kd.R_lit (Kd.int .i64) _ 3 ?hg (N := 79) ?hd (xs := ([(-1), 0, 59, 60, a4] : List Int)) (inner := [.int .i64 (-1), .int .i64 0, .int .i64 59, .int .i64 60, .int .i64 a4]) (ok := fun _ => True) (okp := fun _ => True) ?hr ?hp (fun _ hk => hk) trivial (Below.refl _ _) (Nat.le_refl _) (by simp) ?_; (case hd => rfl); (case hg => rfl); (case hr => first | (go_simp; done) | (go_simp; rfl)); (case hp => exact (Reps.one (show Kd.M (Kd.int .i64) _ _ _ (-1) [.int .i64 (-1)] from rfl) (Reps.one (show Kd.M (Kd.int .i64) _ _ _ 0 [.int .i64 0] from rfl) (Reps.one (show Kd.M (Kd.int .i64) _ _ _ 59 [.int .i64 59] from rfl) (Reps.one (show Kd.M (Kd.int .i64) _ _ _ 60 [.int .i64 60] from rfl) (Reps.one (show Kd.M (Kd.int .i64) _ _ _ a4 [.int .i64 a4] from rfl) (Reps.none _ _))))))); intro v336 w62 ho63 hb hg_ hnew_; clear hg_ hnew_; (first | rw [← Ny335.out] at ho63 | (simp only [Int.reduceToNat] at ho63; rw [← Ny335.out] at ho63)); have n0_ := Aside0.mk (Kd.R_lower ho63 (below_size (by repeat (first | (with_reducible first | exact HB.out | apply below_alloc | apply pw_below_drewN | apply below_drew1 | refine below_set ?_ GE304.out | refine below_set ?_ GE312.out) | exact HB.out)))); have n1_ := Aside0.mk (blk_below (g := gb304) (o := .cells #[.int .i64 a0_0, .int .i64 a0_1, .int .i64 a0_2, .int .i64 a0_3, .int .i64 a0_4, .int .i64 a0_5] 36 (0, 0)) (by (with_reducible repeat (first | refine blk_drewN ?_ _ | refine blk_drew ?_ | refine blk_alloc ?_ _)); exact BK304.out) hb); have n2_ := Aside0.mk (blk_below (g := gb312) (o := .cells #[.int .i64 t306, .int .i64 t307, .int .i64 t308, .int .i64 t309, .int .i64 t310, .int .i64 t311] 36 (0, 0)) (by (with_reducible repeat (first | refine blk_drewN ?_ _ | refine blk_drew ?_ | refine blk_alloc ?_ _)); exact BK312.out) hb); have n3_ := Aside0.mk (below_step (by repeat (first | (with_reducible first | exact HB.out | apply below_alloc | apply pw_below_drewN | apply below_drew1 | refine below_set ?_ GE304.out | refine below_set ?_ GE312.out) | exact HB.out)) hb); clear BK304; clear BK312; clear HB; have HO337 := n0_; have BK304 := n1_; have BK312 := n2_; have HB := n3_; clear n0_ n1_ n2_ n3_; clear hb ho63) | ((with_reducible refine gate_callee (f := 22) rfl ?_); refine goesL_ (some 81) rfl rfl Try.func22 (by kernel_rfl) rfl #[.int .i64 a4, .int .i64 5] rfl (by (try simp only [List.map_toArray, List.map_cons, List.map_nil]); first | done | rfl | (simp only [List.length_drop, List.length_take]; rfl)) ?_; (with_reducible refine (interlocutorlaw1_within.calls a4 5 t338 _ A59.out).mono ?_); rintro e w' ⟨rfl, ⟨nd, rfl⟩⟩; refine ⟨_, rfl, ?_⟩; (try (rw [drewN_self w62]; generalize hq_ : World.drewN w62 _ = w62; have n0_ : Aside0 (Kd.R (Kd.int .i64) 3 w62 w.heap.size (fun _ => True) v336 y335) := ⟨by rw [← hq_]; exact (by (with_reducible repeat (first | apply Kd.R_alloc | apply Kd.R_drewN | apply Kd.R_drew)); exact HO337.out)⟩; have n1_ : Aside0 (w62.heap[gb304]? = some (.cells #[.int .i64 a0_0, .int .i64 a0_1, .int .i64 a0_2, .int .i64 a0_3, .int .i64 a0_4, .int .i64 a0_5] 36 (0, 0))) := ⟨by rw [← hq_]; exact (by (with_reducible repeat (first | refine blk_drewN ?_ _ | refine blk_drew ?_ | refine blk_alloc ?_ _)); exact BK304.out)⟩; have n2_ : Aside0 (w62.heap[gb312]? = some (.cells #[.int .i64 t306, .int .i64 t307, .int .i64 t308, .int .i64 t309, .int .i64 t310, .int .i64 t311] 36 (0, 0))) := ⟨by rw [← hq_]; exact (by (with_reducible repeat (first | refine blk_drewN ?_ _ | refine blk_drew ?_ | refine blk_alloc ?_ _)); exact BK312.out)⟩; have n3_ : Aside0 (Below w.heap.size w w62) := ⟨by rw [← hq_]; exact (by repeat (first | (with_reducible first | exact HB.out | apply below_alloc | apply pw_below_drewN | apply below_drew1 | refine below_set ?_ GE304.out | refine below_set ?_ GE312.out) | exact HB.out))⟩; clear HO337 BK304 BK312 HB hq_; have HO337 := n0_; have BK304 := n1_; have BK312 := n2_; have HB := n3_; clear n0_ n1_ n2_ n3_)); obtain ⟨Ao64, co64, eo64⟩ := Kd.R_slice HO337.out; subst eo64; have p339 : 0 ≤ (t338 : Int) := of_decide_eq_true (by first | (with_reducible assumption) | assumption); have q339 : t338 < (y335.length : Int) := of_decide_eq_true (by first | (with_reducible assumption) | assumption); obtain ⟨ad339, e339, hx339_0⟩ := Kd.at_int (Kd.R_reads' HO337.out).2.2 t338 p339 q339; cases e339; replace p339 := eq_true p339; replace q339 := eq_true q339; have hnb65 := NB312_304.out; have hnc65 := NB304_312.out; have hcz66_0 : w62.cell? ⟨gb312, 0, none⟩ = some (.int .i64 t306) := (blk_cell BK312.out 0).trans rfl; have hcz66_1 : w62.cell? ⟨gb312, 1, none⟩ = some (.int .i64 t307) := (blk_cell BK312.out 1).trans rfl; have hcz66_2 : w62.cell? ⟨gb312, 2, none⟩ = some (.int .i64 t308) := (blk_cell BK312.out 2).trans rfl; have hcz66_3 : w62.cell? ⟨gb312, 3, none⟩ = some (.int .i64 t309) := (blk_cell BK312.out 3).trans rfl; have hcz66_4 : w62.cell? ⟨gb312, 4, none⟩ = some (.int .i64 t310) := (blk_cell BK312.out 4).trans rfl; have hcz66_5 : w62.cell? ⟨gb312, 5, none⟩ = some (.int .i64 t311) := (blk_cell BK312.out 5).trans rfl; have hfz66_0 := blk_frozen BK312.out 0; have hfz66_1 := blk_frozen BK312.out 1; have hfz66_2 := blk_frozen BK312.out 2; have hfz66_3 := blk_frozen BK312.out 3; have hfz66_4 := blk_frozen BK312.out 4; have hfz66_5 := blk_frozen BK312.out 5))
                      go_meet
                      case rel => exact ⟨_, (t306), (t307), (t308), (t309), (rd y335 t338), (t311), H', ⟨by first | omega | exact Nat.le_refl _⟩, ⟨by (with_reducible repeat (first | refine blk_drewN ?_ _ | refine blk_drew ?_ | refine blk_alloc ?_ _)); refine blk_far ?_ NB304_312.out _; (with_reducible repeat (first | refine blk_drewN ?_ _ | refine blk_drew ?_ | refine blk_alloc ?_ _)); exact BK304.out⟩, ⟨by (with_reducible repeat (first | refine blk_drewN ?_ _ | refine blk_drew ?_ | refine blk_alloc ?_ _)); refine blk_put (cs := #[.int .i64 t306, .int .i64 t307, .int .i64 t308, .int .i64 t309, .int .i64 t310, .int .i64 t311]) ?_ 4 _ rfl; (with_reducible repeat (first | refine blk_drewN ?_ _ | refine blk_drew ?_ | refine blk_alloc ?_ _)); exact BK312.out⟩, ⟨by repeat (first | (with_reducible first | exact HB.out | apply below_alloc | apply pw_below_drewN | apply below_drew1 | refine below_set ?_ GE304.out | refine below_set ?_ GE312.out) | exact HB.out)⟩⟩
                    · rw [if_neg c61] at H
                      exact absurd H (by simp)
                  · rw [if_neg c60] at H
                    exact absurd H (by simp)
                · rw [if_neg c58] at H
                  have c58b0 : (t314 == 4) = false := beq_eq_false_iff_ne.mpr c58
                  have c58b1 : (t314 != 4) = true := bne_iff_ne.mpr c58
                  by_cases c67 : t314 = 5
                  · rw [if_pos c67] at H
                    have c67b0 : (t314 == 5) = true := beq_iff_eq.mpr c67
                    have c67b1 : (t314 != 5) = false := bne_eq_false_iff_eq.mpr c67
                    clear c67
                    obtain ⟨y340, hy340⟩ : ∃ y_ : List Int, y_ = (([(-1), 0, 59, 60, a4] : List Int)) := ⟨_, rfl⟩
                    replace H : ((interlocutorlaw1_within.f a4 5).bind fun t343 => (if 0 ≤ t343 then (if t343 < (y340.length : Int) then (interlocutorlaw1_CivilRight.j0 k a0_0 a0_1 a0_2 a0_3 a0_4 a0_5 t306 t307 t308 t309 t310 (rd y340 t343)) else (none)) else (none))) = some r := by first | (rw [hy340]; with_reducible exact H) | (have H2_ := (Option.bind_some _ _).symm.trans H; rw [hy340]; with_reducible exact H2_) | (have H2_ := (Option.bind_some _ _).symm.trans H; with_reducible exact H2_) | with_reducible exact H | (rw [hy340]; exact H) | exact H
                    have Ny340 := Aside0.mk hy340
                    clear hy340
                    replace H := Option.bind_eq_some_iff.mp H
                    obtain ⟨t343, A680, H⟩ := H
                    replace H : (if 0 ≤ t343 then (if t343 < (y340.length : Int) then (interlocutorlaw1_CivilRight.j0 k a0_0 a0_1 a0_2 a0_3 a0_4 a0_5 t306 t307 t308 t309 t310 (rd y340 t343)) else (none)) else (none)) = some r := H
                    have A68 := Aside0.mk A680
                    clear A680
                    by_cases c69 : 0 ≤ t343
                    · rw [if_pos c69] at H
                      have c69b0 : decide (0 ≤ t343) = true := decide_eq_true c69
                      clear c69
                      by_cases c70 : t343 < (y340.length : Int)
                      · rw [if_pos c70] at H
                        have c70b0 : decide (t343 < (y340.length : Int)) = true := decide_eq_true c70
                        clear c70
                        have H' := Aside0.mk H
                        clear H
                        go_wp2_with (first | ((with_reducible refine gate_dst (N := 88) rfl ?_); refine Kd.R_lit (Kd.int .i64) _ 3 ?hg (N := 88) ?hd (xs := ([(-1), 0, 59, 60, a4] : List Int)) (inner := [.int .i64 (-1), .int .i64 0, .int .i64 59, .int .i64 60, .int .i64 a4]) (ok := fun _ => True) (okp := fun _ => True) ?hr ?hp (fun _ hk => hk) trivial (Below.refl _ _) (Nat.le_refl _) (by simp) ?_; (case hd => rfl); (case hg => rfl); (case hr => first | (go_simp; done) | (go_simp; rfl)); (case hp => exact (Reps.one (show Kd.M (Kd.int .i64) _ _ _ (-1) [.int .i64 (-1)] from rfl) (Reps.one (show Kd.M (Kd.int .i64) _ _ _ 0 [.int .i64 0] from rfl) (Reps.one (show Kd.M (Kd.int .i64) _ _ _ 59 [.int .i64 59] from rfl) (Reps.one (show Kd.M (Kd.int .i64) _ _ _ 60 [.int .i64 60] from rfl) (Reps.one (show Kd.M (Kd.int .i64) _ _ _ a4 [.int .i64 a4] from rfl) (Reps.none _ _))))))); intro v341 w71 ho72 hb hg_ hnew_; clear hg_ hnew_; (first | rw [← Ny340.out] at ho72 | (simp only [Int.reduceToNat] at ho72; rw [← Ny340.out] at ho72)); have n0_ := Aside0.mk (Kd.R_lower ho72 (below_size (by repeat (first | (with_reducible first | exact HB.out | apply below_alloc | apply pw_below_drewN | apply below_drew1 | refine below_set ?_ GE304.out | refine below_set ?_ GE312.out) | exact HB.out)))); have n1_ := Aside0.mk (blk_below (g := gb304) (o := .cells #[.int .i64 a0_0, .int .i64 a0_1, .int .i64 a0_2, .int .i64 a0_3, .int .i64 a0_4, .int .i64 a0_5] 36 (0, 0)) (by (with_reducible repeat (first | refine blk_drewN ?_ _ | refine blk_drew ?_ | refine blk_alloc ?_ _)); exact BK304.out) hb); have n2_ := Aside0.mk (blk_below (g := gb312) (o := .cells #[.int .i64 t306, .int .i64 t307, .int .i64 t308, .int .i64 t309, .int .i64 t310, .int .i64 t311] 36 (0, 0)) (by (with_reducible repeat (first | refine blk_drewN ?_ _ | refine blk_drew ?_ | refine blk_alloc ?_ _)); exact BK312.out) hb); have n3_ := Aside0.mk (below_step (by repeat (first | (with_reducible first | exact HB.out | apply below_alloc | apply pw_below_drewN | apply below_drew1 | refine below_set ?_ GE304.out | refine below_set ?_ GE312.out) | exact HB.out)) hb); clear BK304; clear BK312; clear HB; have HO342 := n0_; have BK304 := n1_; have BK312 := n2_; have HB := n3_; clear n0_ n1_ n2_ n3_; clear hb ho72) | ((with_reducible refine gate_callee (f := 22) rfl ?_); refine goesL_ (some 90) rfl rfl Try.func22 (by kernel_rfl) rfl #[.int .i64 a4, .int .i64 5] rfl (by (try simp only [List.map_toArray, List.map_cons, List.map_nil]); first | done | rfl | (simp only [List.length_drop, List.length_take]; rfl)) ?_; (with_reducible refine (interlocutorlaw1_within.calls a4 5 t343 _ A68.out).mono ?_); rintro e w' ⟨rfl, ⟨nd, rfl⟩⟩; refine ⟨_, rfl, ?_⟩; (try (rw [drewN_self w71]; generalize hq_ : World.drewN w71 _ = w71; have n0_ : Aside0 (Kd.R (Kd.int .i64) 3 w71 w.heap.size (fun _ => True) v341 y340) := ⟨by rw [← hq_]; exact (by (with_reducible repeat (first | apply Kd.R_alloc | apply Kd.R_drewN | apply Kd.R_drew)); exact HO342.out)⟩; have n1_ : Aside0 (w71.heap[gb304]? = some (.cells #[.int .i64 a0_0, .int .i64 a0_1, .int .i64 a0_2, .int .i64 a0_3, .int .i64 a0_4, .int .i64 a0_5] 36 (0, 0))) := ⟨by rw [← hq_]; exact (by (with_reducible repeat (first | refine blk_drewN ?_ _ | refine blk_drew ?_ | refine blk_alloc ?_ _)); exact BK304.out)⟩; have n2_ : Aside0 (w71.heap[gb312]? = some (.cells #[.int .i64 t306, .int .i64 t307, .int .i64 t308, .int .i64 t309, .int .i64 t310, .int .i64 t311] 36 (0, 0))) := ⟨by rw [← hq_]; exact (by (with_reducible repeat (first | refine blk_drewN ?_ _ | refine blk_drew ?_ | refine blk_alloc ?_ _)); exact BK312.out)⟩; have n3_ : Aside0 (Below w.heap.size w w71) := ⟨by rw [← hq_]; exact (by repeat (first | (with_reducible first | exact HB.out | apply below_alloc | apply pw_below_drewN | apply below_drew1 | refine below_set ?_ GE304.out | refine below_set ?_ GE312.out) | exact HB.out))⟩; clear HO342 BK304 BK312 HB hq_; have HO342 := n0_; have BK304 := n1_; have BK312 := n2_; have HB := n3_; clear n0_ n1_ n2_ n3_)); obtain ⟨Ao73, co73, eo73⟩ := Kd.R_slice HO342.out; subst eo73; have p344 : 0 ≤ (t343 : Int) := of_decide_eq_true (by first | (with_reducible assumption) | assumption); have q344 : t343 < (y340.length : Int) := of_decide_eq_true (by first | (with_reducible assumption) | assumption); obtain ⟨ad344, e344, hx344_0⟩ := Kd.at_int (Kd.R_reads' HO342.out).2.2 t343 p344 q344; cases e344; replace p344 := eq_true p344; replace q344 := eq_true q344; have hnb74 := NB312_304.out; have hnc74 := NB304_312.out; have hcz75_0 : w71.cell? ⟨gb312, 0, none⟩ = some (.int .i64 t306) := (blk_cell BK312.out 0).trans rfl; have hcz75_1 : w71.cell? ⟨gb312, 1, none⟩ = some (.int .i64 t307) := (blk_cell BK312.out 1).trans rfl; have hcz75_2 : w71.cell? ⟨gb312, 2, none⟩ = some (.int .i64 t308) := (blk_cell BK312.out 2).trans rfl; have hcz75_3 : w71.cell? ⟨gb312, 3, none⟩ = some (.int .i64 t309) := (blk_cell BK312.out 3).trans rfl; have hcz75_4 : w71.cell? ⟨gb312, 4, none⟩ = some (.int .i64 t310) := (blk_cell BK312.out 4).trans rfl; have hcz75_5 : w71.cell? ⟨gb312, 5, none⟩ = some (.int .i64 t311) := (blk_cell BK312.out 5).trans rfl; have hfz75_0 := blk_frozen BK312.out 0; have hfz75_1 := blk_frozen BK312.out 1; have hfz75_2 := blk_frozen BK312.out 2; have hfz75_3 := blk_frozen BK312.out 3; have hfz75_4 := blk_frozen BK312.out 4; have hfz75_5 := blk_frozen BK312.out 5))
                        go_meet
                        case rel => exact ⟨_, (t306), (t307), (t308), (t309), (t310), (rd y340 t343), H', ⟨by first | omega | exact Nat.le_refl _⟩, ⟨by (with_reducible repeat (first | refine blk_drewN ?_ _ | refine blk_drew ?_ | refine blk_alloc ?_ _)); refine blk_far ?_ NB304_312.out _; (with_reducible repeat (first | refine blk_drewN ?_ _ | refine blk_drew ?_ | refine blk_alloc ?_ _)); exact BK304.out⟩, ⟨by (with_reducible repeat (first | refine blk_drewN ?_ _ | refine blk_drew ?_ | refine blk_alloc ?_ _)); refine blk_put (cs := #[.int .i64 t306, .int .i64 t307, .int .i64 t308, .int .i64 t309, .int .i64 t310, .int .i64 t311]) ?_ 5 _ rfl; (with_reducible repeat (first | refine blk_drewN ?_ _ | refine blk_drew ?_ | refine blk_alloc ?_ _)); exact BK312.out⟩, ⟨by repeat (first | (with_reducible first | exact HB.out | apply below_alloc | apply pw_below_drewN | apply below_drew1 | refine below_set ?_ GE304.out | refine below_set ?_ GE312.out) | exact HB.out)⟩⟩
                      · rw [if_neg c70] at H
                        exact absurd H (by simp)
                    · rw [if_neg c69] at H
                      exact absurd H (by simp)
                  · rw [if_neg c67] at H
                    have c67b0 : (t314 == 5) = false := beq_eq_false_iff_ne.mpr c67
                    have c67b1 : (t314 != 5) = true := bne_iff_ne.mpr c67
                    have H' := Aside0.mk H
                    clear H
                    go_wp2
                    go_meet
                    case rel => exact ⟨_, (t306), (t307), (t308), (t309), (t310), (t311), H', ⟨by first | omega | exact Nat.le_refl _⟩, ⟨by (with_reducible repeat (first | refine blk_drewN ?_ _ | refine blk_drew ?_ | refine blk_alloc ?_ _)); exact BK304.out⟩, ⟨by (with_reducible repeat (first | refine blk_drewN ?_ _ | refine blk_drew ?_ | refine blk_alloc ?_ _)); exact BK312.out⟩, ⟨by repeat (first | (with_reducible first | exact HB.out | apply below_alloc | apply pw_below_drewN | apply below_drew1 | refine below_set ?_ GE304.out | refine below_set ?_ GE312.out) | exact HB.out)⟩⟩
      case rest =>
        clear HC15
        try clear c1
        try clear c2
        try clear p2
        try clear c3
        try clear p3
        try clear q3
        try clear hx3
        try clear c4
        try clear c5
        try clear c6
        try clear p6
        try clear c7
        try clear c13
        try clear c14
        try clear c15
        try clear c19
        try clear c22
        try clear c22b0
        try clear c22b1
        try clear c24
        try clear c24b0
        try clear c25
        try clear c25b0
        try clear c27
        try clear c29
        try clear c31
        try clear c31b0
        try clear c31b1
        try clear p31
        try clear q31
        try clear hx31
        try clear p32
        try clear q32
        try clear hx32
        try clear c33
        try clear c33b0
        try clear p33
        try clear q33
        try clear hx33
        try clear c34
        try clear c34b0
        try clear p34
        try clear q34
        try clear hx34
        try clear c38
        try clear c40
        try clear c40b0
        try clear c40b1
        try clear c42
        try clear c42b0
        try clear c43
        try clear c43b0
        try clear c47
        try clear c49
        try clear c49b0
        try clear c49b1
        try clear c51
        try clear c51b0
        try clear c52
        try clear c52b0
        try clear c56
        try clear c58
        try clear c58b0
        try clear c58b1
        try clear c60
        try clear c60b0
        try clear c61
        try clear c61b0
        try clear p64
        try clear c65
        try clear c67
        try clear c67b0
        try clear c67b1
        try clear c69
        try clear c69b0
        try clear c70
        try clear c70b0
        try clear c74
        try clear hcz20_0
        try clear hcz20_1
        try clear hcz20_2
        try clear hcz20_3
        try clear hcz20_4
        try clear hcz20_5
        try clear hcz30_0
        try clear hcz30_1
        try clear hcz30_2
        try clear hcz30_3
        try clear hcz30_4
        try clear hcz30_5
        try clear hcz39_0
        try clear hcz39_1
        try clear hcz39_2
        try clear hcz39_3
        try clear hcz39_4
        try clear hcz39_5
        try clear hcz48_0
        try clear hcz48_1
        try clear hcz48_2
        try clear hcz48_3
        try clear hcz48_4
        try clear hcz48_5
        try clear hcz57_0
        try clear hcz57_1
        try clear hcz57_2
        try clear hcz57_3
        try clear hcz57_4
        try clear hcz57_5
        try clear hcz66_0
        try clear hcz66_1
        try clear hcz66_2
        try clear hcz66_3
        try clear hcz66_4
        try clear hcz66_5
        try clear hcz75_0
        try clear hcz75_1
        try clear hcz75_2
        try clear hcz75_3
        try clear hcz75_4
        try clear hcz75_5
        try clear hfz20_0
        try clear hfz20_1
        try clear hfz20_2
        try clear hfz20_3
        try clear hfz20_4
        try clear hfz20_5
        try clear hfz30_0
        try clear hfz30_1
        try clear hfz30_2
        try clear hfz30_3
        try clear hfz30_4
        try clear hfz30_5
        try clear hfz39_0
        try clear hfz39_1
        try clear hfz39_2
        try clear hfz39_3
        try clear hfz39_4
        try clear hfz39_5
        try clear hfz48_0
        try clear hfz48_1
        try clear hfz48_2
        try clear hfz48_3
        try clear hfz48_4
        try clear hfz48_5
        try clear hfz57_0
        try clear hfz57_1
        try clear hfz57_2
        try clear hfz57_3
        try clear hfz57_4
        try clear hfz57_5
        try clear hfz66_0
        try clear hfz66_1
        try clear hfz66_2
        try clear hfz66_3
        try clear hfz66_4
        try clear hfz66_5
        try clear hfz75_0
        try clear hfz75_1
        try clear hfz75_2
        try clear hfz75_3
        try clear hfz75_4
        try clear hfz75_5
        try clear hx319_0
        try clear hx324_0
        try clear hx329_0
        try clear hx334_0
        try clear hx339_0
        try clear hx344_0
        try clear p319
        try clear p324
        try clear p329
        try clear p334
        try clear p339
        try clear p344
        try clear q319
        try clear q324
        try clear q329
        try clear q334
        try clear q339
        try clear q344
        obtain ⟨kq, x313000_14, x313001_14, x313002_14, x313003_14, x313004_14, x313005_14, HA, HJ14, BK304, BK312, HB⟩ := hcut
        cases kq with
        | zero => exact absurd HA.out (by simp [interlocutorlaw1_CivilRight.j0])
        | succ kj14 =>
          have H := HA.out
          clear HA
          simp only [interlocutorlaw1_CivilRight.j0] at H
          replace H := Option.bind_eq_some_iff.mp H
          obtain ⟨t345, A760, H⟩ := H
          replace H : ((interlocutorref1_Right.f x313000_14 x313001_14 x313002_14 x313003_14 x313004_14 x313005_14).bind fun t346 => (if (t345 == t346) = true then ((civil_Right.f a0_0 a0_1 a0_2 a0_3 a0_4 a0_5).bind fun t347 => ((interlocutorref1_Right.f a0_0 a0_1 a0_2 a0_3 a0_4 a0_5).bind fun t348 => (some (t347 == t348)))) else (some false))) = some r := H
          have A76 := Aside0.mk A760
          clear A760
          replace H := Option.bind_eq_some_iff.mp H
          obtain ⟨t346, A770, H⟩ := H
          replace H : (if (t345 == t346) = true then ((civil_Right.f a0_0 a0_1 a0_2 a0_3 a0_4 a0_5).bind fun t347 => ((interlocutorref1_Right.f a0_0 a0_1 a0_2 a0_3 a0_4 a0_5).bind fun t348 => (some (t347 == t348)))) else (some false)) = some r := H
          have A77 := Aside0.mk A770
          clear A770
          by_cases c78 : (t345 == t346) = true
          · rw [if_pos c78] at H
            have c78b0 : (t345 == t346) = true := c78
            (try (have c78b1 : decide (t345 = t346) = true := by simpa using c78))
            (try (have c78b2 : (t345 == t346) = true := by simpa using c78))
            clear c78
            replace H := Option.bind_eq_some_iff.mp H
            obtain ⟨t347, A790, H⟩ := H
            replace H : ((interlocutorref1_Right.f a0_0 a0_1 a0_2 a0_3 a0_4 a0_5).bind fun t348 => (some (t347 == t348))) = some r := H
            have A79 := Aside0.mk A790
            clear A790
            replace H := Option.bind_eq_some_iff.mp H
            obtain ⟨t348, A800, H⟩ := H
            replace H : (some (t347 == t348)) = some r := H
            have A80 := Aside0.mk A800
            clear A800
            obtain rfl := Option.some.inj H
            try go_wp2
            have n0_ := Aside0.mk (blk_drew BK304.out)
            have n1_ := Aside0.mk (blk_drew BK312.out)
            have n2_ := Aside0.mk (below_drew1 HB.out)
            clear BK304
            clear BK312
            clear HB
            have BK304 := n0_
            have BK312 := n1_
            have HB := n2_
            clear n0_ n1_ n2_
            refine start_ (n := 13) (S := fun w' => w'.cell? ⟨gb312, 0, none⟩ = some (.int .i64 x313000_14) ∧ w'.cell? ⟨gb312, 1, none⟩ = some (.int .i64 x313001_14) ∧ w'.cell? ⟨gb312, 2, none⟩ = some (.int .i64 x313002_14) ∧ w'.cell? ⟨gb312, 3, none⟩ = some (.int .i64 x313003_14) ∧ w'.cell? ⟨gb312, 4, none⟩ = some (.int .i64 x313004_14) ∧ w'.cell? ⟨gb312, 5, none⟩ = some (.int .i64 x313005_14) ∧ w'.cell? ⟨gb304, 0, none⟩ = some (.int .i64 a0_0) ∧ w'.cell? ⟨gb304, 1, none⟩ = some (.int .i64 a0_1) ∧ w'.cell? ⟨gb304, 2, none⟩ = some (.int .i64 a0_2) ∧ w'.cell? ⟨gb304, 3, none⟩ = some (.int .i64 a0_3) ∧ w'.cell? ⟨gb304, 4, none⟩ = some (.int .i64 a0_4) ∧ w'.cell? ⟨gb304, 5, none⟩ = some (.int .i64 a0_5)) (ds := []) #[false, false, false, false, false, false, false, false, false, false, false, false, false] (by kernel_rfl) rfl rfl ⟨(blk_cell BK312.out 0).trans rfl, (blk_cell BK312.out 1).trans rfl, (blk_cell BK312.out 2).trans rfl, (blk_cell BK312.out 3).trans rfl, (blk_cell BK312.out 4).trans rfl, (blk_cell BK312.out 5).trans rfl, (blk_cell BK304.out 0).trans rfl, (blk_cell BK304.out 1).trans rfl, (blk_cell BK304.out 2).trans rfl, (blk_cell BK304.out 3).trans rfl, (blk_cell BK304.out 4).trans rfl, (blk_cell BK304.out 5).trans rfl⟩ (fun hHeld => ?_); refine with_tabW interlocutorlaw1_CivilRight.tab20 interlocutorlaw1_CivilRight.bits20 (fun HT_ HW_ => ?_)
            generalize wc.drew = w81 at BK304 BK312 HB hHeld ⊢
            refine take_ (i := 0) (N := some 94) (v := ?_) (a' := ?_) #[true, false, false, false, false, false, false, false, false, false, false, false, false] rfl rfl (take_ofW HT_.out HW_.out (by kernel_rfl)) (fun _ _ _ h => h) (Or.inl ⟨by rfl, ?_⟩) hHeld ?_ ?_
            rotate_left
            · rintro w' ⟨s0, s1, s2, s3, s4, s5, s6, s7, s8, s9, s10, s11⟩
              go_simp
              with_reducible rfl
            rotate_left
            · simp only [Act.put, List.setIfInBounds_toArray, List.set_cons_zero, List.set_cons_succ, i64_w, i32_w]
              rfl
            refine take_ (i := 2) (N := some 96) (v := ?_) (a' := ?_) #[true, false, true, false, false, false, false, false, false, false, false, false, false] rfl rfl (take_ofW HT_.out HW_.out (by kernel_rfl)) (fun _ _ _ h => h) (Or.inl ⟨by rfl, ?_⟩) hHeld ?_ ?_
            rotate_left
            · rintro w' ⟨s0, s1, s2, s3, s4, s5, s6, s7, s8, s9, s10, s11⟩
              go_simp
              with_reducible rfl
            rotate_left
            · simp only [Act.put, List.setIfInBounds_toArray, List.set_cons_zero, List.set_cons_succ, i64_w, i32_w]
              rfl
            refine one_ (i := 1) (N := some 95) #[true, true, true, false, false, false, false, false, false, false, false, false, false] rfl rfl (one_of HT_.out (by kernel_rfl)) (by decide) (fun K hK => ?_)
            refine goes_ Try.func27 (by kernel_rfl) rfl #[.agg #[.int .i64 x313000_14, .int .i64 x313001_14, .int .i64 x313002_14, .int .i64 x313003_14, .int .i64 x313004_14, .int .i64 x313005_14]] (by rfl) rfl rfl (by (try simp only [List.map_toArray, List.map_cons, List.map_nil]); first | done | rfl | (simp only [List.length_drop, List.length_take]; rfl)) ?_
            with_reducible refine (civil_Right.calls x313000_14 x313001_14 x313002_14 x313003_14 x313004_14 x313005_14 t345 _ A76.out).mono ?_
            rintro e w82 ⟨rfl, hb⟩
            refine ⟨_, rfl, ?_⟩
            have n0_ := Aside0.mk (blk_below (g := gb304) (o := .cells #[.int .i64 a0_0, .int .i64 a0_1, .int .i64 a0_2, .int .i64 a0_3, .int .i64 a0_4, .int .i64 a0_5] 36 (0, 0)) (by (with_reducible repeat (first | refine blk_drewN ?_ _ | refine blk_drew ?_ | refine blk_alloc ?_ _)); exact BK304.out) hb)
            have n1_ := Aside0.mk (blk_below (g := gb312) (o := .cells #[.int .i64 x313000_14, .int .i64 x313001_14, .int .i64 x313002_14, .int .i64 x313003_14, .int .i64 x313004_14, .int .i64 x313005_14] 36 (0, 0)) (by (with_reducible repeat (first | refine blk_drewN ?_ _ | refine blk_drew ?_ | refine blk_alloc ?_ _)); exact BK312.out) hb)
            have n2_ := Aside0.mk (below_step (by repeat (first | (with_reducible first | exact HB.out | apply below_alloc | apply pw_below_drewN | apply below_drew1 | refine below_set ?_ GE304.out | refine below_set ?_ GE312.out) | exact HB.out)) hb)
            clear BK304
            clear BK312
            clear HB
            have BK304 := n0_
            have BK312 := n1_
            have HB := n2_
            clear n0_ n1_ n2_
            (try clear hb)
            (try clear hb2)
            (try clear hk)
            (try clear hi)
            refine hK.out _ _ ⟨(blk_cell BK312.out 0).trans rfl, (blk_cell BK312.out 1).trans rfl, (blk_cell BK312.out 2).trans rfl, (blk_cell BK312.out 3).trans rfl, (blk_cell BK312.out 4).trans rfl, (blk_cell BK312.out 5).trans rfl, (blk_cell BK304.out 0).trans rfl, (blk_cell BK304.out 1).trans rfl, (blk_cell BK304.out 2).trans rfl, (blk_cell BK304.out 3).trans rfl, (blk_cell BK304.out 4).trans rfl, (blk_cell BK304.out 5).trans rfl⟩ (fun hHeld => ?_)
            clear hK K
            refine norm_ (a' := ?_) ?_ ?_
            rotate_left
            · show Act.put _ (some 95) _ = _
              simp only [Act.put, List.setIfInBounds_toArray, List.set_cons_zero, List.set_cons_succ, i64_w, i32_w]
              rfl
            refine one_ (i := 3) (N := some 97) #[true, true, true, true, false, false, false, false, false, false, false, false, false] rfl rfl (one_of HT_.out (by kernel_rfl)) (by decide) (fun K hK => ?_)
            refine goes_ Try.func28 (by kernel_rfl) rfl #[.agg #[.int .i64 x313000_14, .int .i64 x313001_14, .int .i64 x313002_14, .int .i64 x313003_14, .int .i64 x313004_14, .int .i64 x313005_14]] (by rfl) rfl rfl (by (try simp only [List.map_toArray, List.map_cons, List.map_nil]); first | done | rfl | (simp only [List.length_drop, List.length_take]; rfl)) ?_
            with_reducible refine (interlocutorref1_Right.calls x313000_14 x313001_14 x313002_14 x313003_14 x313004_14 x313005_14 t346 _ A77.out).mono ?_
            rintro e w83 ⟨rfl, hb⟩
            refine ⟨_, rfl, ?_⟩
            have n0_ := Aside0.mk (blk_below (g := gb304) (o := .cells #[.int .i64 a0_0, .int .i64 a0_1, .int .i64 a0_2, .int .i64 a0_3, .int .i64 a0_4, .int .i64 a0_5] 36 (0, 0)) (by (with_reducible repeat (first | refine blk_drewN ?_ _ | refine blk_drew ?_ | refine blk_alloc ?_ _)); exact BK304.out) hb)
            have n1_ := Aside0.mk (blk_below (g := gb312) (o := .cells #[.int .i64 x313000_14, .int .i64 x313001_14, .int .i64 x313002_14, .int .i64 x313003_14, .int .i64 x313004_14, .int .i64 x313005_14] 36 (0, 0)) (by (with_reducible repeat (first | refine blk_drewN ?_ _ | refine blk_drew ?_ | refine blk_alloc ?_ _)); exact BK312.out) hb)
            have n2_ := Aside0.mk (below_step (by repeat (first | (with_reducible first | exact HB.out | apply below_alloc | apply pw_below_drewN | apply below_drew1 | refine below_set ?_ GE304.out | refine below_set ?_ GE312.out) | exact HB.out)) hb)
            clear BK304
            clear BK312
            clear HB
            have BK304 := n0_
            have BK312 := n1_
            have HB := n2_
            clear n0_ n1_ n2_
            (try clear hb)
            (try clear hb2)
            (try clear hk)
            (try clear hi)
            refine hK.out _ _ ⟨(blk_cell BK312.out 0).trans rfl, (blk_cell BK312.out 1).trans rfl, (blk_cell BK312.out 2).trans rfl, (blk_cell BK312.out 3).trans rfl, (blk_cell BK312.out 4).trans rfl, (blk_cell BK312.out 5).trans rfl, (blk_cell BK304.out 0).trans rfl, (blk_cell BK304.out 1).trans rfl, (blk_cell BK304.out 2).trans rfl, (blk_cell BK304.out 3).trans rfl, (blk_cell BK304.out 4).trans rfl, (blk_cell BK304.out 5).trans rfl⟩ (fun hHeld => ?_)
            clear hK K
            refine norm_ (a' := ?_) ?_ ?_
            rotate_left
            · show Act.put _ (some 97) _ = _
              simp only [Act.put, List.setIfInBounds_toArray, List.set_cons_zero, List.set_cons_succ, i64_w, i32_w]
              rfl
            refine pure_ (i := 4) (N := some 98) (v := ?_) (a' := ?_) #[true, true, true, true, true, false, false, false, false, false, false, false, false] rfl rfl (any_of HT_.out (by kernel_rfl)) (fun _ _ _ h => h) (Or.inl ⟨by rfl, ?_⟩) ?_ ?_
            rotate_left
            · intro w'
              go_simp
              with_reducible rfl
            rotate_left
            · simp only [Act.put, List.setIfInBounds_toArray, List.set_cons_zero, List.set_cons_succ, i64_w, i32_w]
              rfl
            refine pure_ (i := 5) (N := some 99) (v := ?_) (a' := ?_) #[true, true, true, true, true, true, false, false, false, false, false, false, false] rfl rfl (any_of HT_.out (by kernel_rfl)) (fun _ _ _ h => h) (Or.inl ⟨by rfl, ?_⟩) ?_ ?_
            rotate_left
            · intro w'
              go_simp
              with_reducible rfl
            rotate_left
            · simp only [Act.put, List.setIfInBounds_toArray, List.set_cons_zero, List.set_cons_succ, i64_w, i32_w]
              rfl
            refine take_ (i := 6) (N := some 100) (v := ?_) (a' := ?_) #[true, true, true, true, true, true, true, false, false, false, false, false, false] rfl rfl (take_ofW HT_.out HW_.out (by kernel_rfl)) (fun _ _ _ h => h) (Or.inl ⟨by rfl, ?_⟩) hHeld ?_ ?_
            rotate_left
            · rintro w' ⟨s0, s1, s2, s3, s4, s5, s6, s7, s8, s9, s10, s11⟩
              go_simp
              with_reducible rfl
            rotate_left
            · simp only [Act.put, List.setIfInBounds_toArray, List.set_cons_zero, List.set_cons_succ, i64_w, i32_w]
              rfl
            refine take_ (i := 8) (N := some 102) (v := ?_) (a' := ?_) #[true, true, true, true, true, true, true, false, true, false, false, false, false] rfl rfl (take_ofW HT_.out HW_.out (by kernel_rfl)) (fun _ _ _ h => h) (Or.inl ⟨by rfl, ?_⟩) hHeld ?_ ?_
            rotate_left
            · rintro w' ⟨s0, s1, s2, s3, s4, s5, s6, s7, s8, s9, s10, s11⟩
              go_simp
              with_reducible rfl
            rotate_left
            · simp only [Act.put, List.setIfInBounds_toArray, List.set_cons_zero, List.set_cons_succ, i64_w, i32_w]
              rfl
            refine one_ (i := 7) (N := some 101) #[true, true, true, true, true, true, true, true, true, false, false, false, false] rfl rfl (one_of HT_.out (by kernel_rfl)) (by decide) (fun K hK => ?_)
            refine goes_ Try.func27 (by kernel_rfl) rfl #[.agg #[.int .i64 a0_0, .int .i64 a0_1, .int .i64 a0_2, .int .i64 a0_3, .int .i64 a0_4, .int .i64 a0_5]] (by rfl) rfl rfl (by (try simp only [List.map_toArray, List.map_cons, List.map_nil]); first | done | rfl | (simp only [List.length_drop, List.length_take]; rfl)) ?_
            with_reducible refine (civil_Right.calls a0_0 a0_1 a0_2 a0_3 a0_4 a0_5 t347 _ A79.out).mono ?_
            rintro e w84 ⟨rfl, hb⟩
            refine ⟨_, rfl, ?_⟩
            have n0_ := Aside0.mk (blk_below (g := gb304) (o := .cells #[.int .i64 a0_0, .int .i64 a0_1, .int .i64 a0_2, .int .i64 a0_3, .int .i64 a0_4, .int .i64 a0_5] 36 (0, 0)) (by (with_reducible repeat (first | refine blk_drewN ?_ _ | refine blk_drew ?_ | refine blk_alloc ?_ _)); exact BK304.out) hb)
            have n1_ := Aside0.mk (blk_below (g := gb312) (o := .cells #[.int .i64 x313000_14, .int .i64 x313001_14, .int .i64 x313002_14, .int .i64 x313003_14, .int .i64 x313004_14, .int .i64 x313005_14] 36 (0, 0)) (by (with_reducible repeat (first | refine blk_drewN ?_ _ | refine blk_drew ?_ | refine blk_alloc ?_ _)); exact BK312.out) hb)
            have n2_ := Aside0.mk (below_step (by repeat (first | (with_reducible first | exact HB.out | apply below_alloc | apply pw_below_drewN | apply below_drew1 | refine below_set ?_ GE304.out | refine below_set ?_ GE312.out) | exact HB.out)) hb)
            clear BK304
            clear BK312
            clear HB
            have BK304 := n0_
            have BK312 := n1_
            have HB := n2_
            clear n0_ n1_ n2_
            (try clear hb)
            (try clear hb2)
            (try clear hk)
            (try clear hi)
            refine hK.out _ _ ⟨(blk_cell BK312.out 0).trans rfl, (blk_cell BK312.out 1).trans rfl, (blk_cell BK312.out 2).trans rfl, (blk_cell BK312.out 3).trans rfl, (blk_cell BK312.out 4).trans rfl, (blk_cell BK312.out 5).trans rfl, (blk_cell BK304.out 0).trans rfl, (blk_cell BK304.out 1).trans rfl, (blk_cell BK304.out 2).trans rfl, (blk_cell BK304.out 3).trans rfl, (blk_cell BK304.out 4).trans rfl, (blk_cell BK304.out 5).trans rfl⟩ (fun hHeld => ?_)
            clear hK K
            refine norm_ (a' := ?_) ?_ ?_
            rotate_left
            · show Act.put _ (some 101) _ = _
              simp only [Act.put, List.setIfInBounds_toArray, List.set_cons_zero, List.set_cons_succ, i64_w, i32_w]
              rfl
            refine one_ (i := 9) (N := some 103) #[true, true, true, true, true, true, true, true, true, true, false, false, false] rfl rfl (one_of HT_.out (by kernel_rfl)) (by decide) (fun K hK => ?_)
            refine goes_ Try.func28 (by kernel_rfl) rfl #[.agg #[.int .i64 a0_0, .int .i64 a0_1, .int .i64 a0_2, .int .i64 a0_3, .int .i64 a0_4, .int .i64 a0_5]] (by rfl) rfl rfl (by (try simp only [List.map_toArray, List.map_cons, List.map_nil]); first | done | rfl | (simp only [List.length_drop, List.length_take]; rfl)) ?_
            with_reducible refine (interlocutorref1_Right.calls a0_0 a0_1 a0_2 a0_3 a0_4 a0_5 t348 _ A80.out).mono ?_
            rintro e w85 ⟨rfl, hb⟩
            refine ⟨_, rfl, ?_⟩
            have n0_ := Aside0.mk (blk_below (g := gb304) (o := .cells #[.int .i64 a0_0, .int .i64 a0_1, .int .i64 a0_2, .int .i64 a0_3, .int .i64 a0_4, .int .i64 a0_5] 36 (0, 0)) (by (with_reducible repeat (first | refine blk_drewN ?_ _ | refine blk_drew ?_ | refine blk_alloc ?_ _)); exact BK304.out) hb)
            have n1_ := Aside0.mk (blk_below (g := gb312) (o := .cells #[.int .i64 x313000_14, .int .i64 x313001_14, .int .i64 x313002_14, .int .i64 x313003_14, .int .i64 x313004_14, .int .i64 x313005_14] 36 (0, 0)) (by (with_reducible repeat (first | refine blk_drewN ?_ _ | refine blk_drew ?_ | refine blk_alloc ?_ _)); exact BK312.out) hb)
            have n2_ := Aside0.mk (below_step (by repeat (first | (with_reducible first | exact HB.out | apply below_alloc | apply pw_below_drewN | apply below_drew1 | refine below_set ?_ GE304.out | refine below_set ?_ GE312.out) | exact HB.out)) hb)
            clear BK304
            clear BK312
            clear HB
            have BK304 := n0_
            have BK312 := n1_
            have HB := n2_
            clear n0_ n1_ n2_
            (try clear hb)
            (try clear hb2)
            (try clear hk)
            (try clear hi)
            refine hK.out _ _ ⟨(blk_cell BK312.out 0).trans rfl, (blk_cell BK312.out 1).trans rfl, (blk_cell BK312.out 2).trans rfl, (blk_cell BK312.out 3).trans rfl, (blk_cell BK312.out 4).trans rfl, (blk_cell BK312.out 5).trans rfl, (blk_cell BK304.out 0).trans rfl, (blk_cell BK304.out 1).trans rfl, (blk_cell BK304.out 2).trans rfl, (blk_cell BK304.out 3).trans rfl, (blk_cell BK304.out 4).trans rfl, (blk_cell BK304.out 5).trans rfl⟩ (fun hHeld => ?_)
            clear hK K
            refine norm_ (a' := ?_) ?_ ?_
            rotate_left
            · show Act.put _ (some 103) _ = _
              simp only [Act.put, List.setIfInBounds_toArray, List.set_cons_zero, List.set_cons_succ, i64_w, i32_w]
              rfl
            refine pure_ (i := 10) (N := some 104) (v := ?_) (a' := ?_) #[true, true, true, true, true, true, true, true, true, true, true, false, false] rfl rfl (any_of HT_.out (by kernel_rfl)) (fun _ _ _ h => h) (Or.inl ⟨by rfl, ?_⟩) ?_ ?_
            rotate_left
            · intro w'
              go_simp
              with_reducible rfl
            rotate_left
            · simp only [Act.put, List.setIfInBounds_toArray, List.set_cons_zero, List.set_cons_succ, i64_w, i32_w]
              rfl
            refine pure_ (i := 11) (N := some 105) (v := ?_) (a' := ?_) #[true, true, true, true, true, true, true, true, true, true, true, true, false] rfl rfl (any_of HT_.out (by kernel_rfl)) (fun _ _ _ h => h) (Or.inl ⟨by rfl, ?_⟩) ?_ ?_
            rotate_left
            · intro w'
              go_simp
              with_reducible rfl
            rotate_left
            · simp only [Act.put, List.setIfInBounds_toArray, List.set_cons_zero, List.set_cons_succ, i64_w, i32_w]
              rfl
            refine pure_ (i := 12) (N := some 10) (v := ?_) (a' := ?_) #[true, true, true, true, true, true, true, true, true, true, true, true, true] rfl rfl (any_of HT_.out (by kernel_rfl)) (fun _ _ _ h => h) (Or.inl ⟨by rfl, ?_⟩) ?_ ?_
            rotate_left
            · intro w'
              go_simp
              with_reducible rfl
            rotate_left
            · simp only [Act.put, List.setIfInBounds_toArray, List.set_cons_zero, List.set_cons_succ, i64_w, i32_w]
              rfl
            refine done_ (done_of HT_.out (by kernel_rfl)) ?_
            try go_wp2
            go_ret
            exact ⟨by first | rfl | (simp [errW_none, errW_some] <;> rfl) | (simp [*, errW_none, errW_some] <;> rfl), by repeat (first | (with_reducible first | exact HB.out | apply below_alloc | apply pw_below_drewN | apply below_drew1 | refine below_set ?_ GE304.out | refine below_set ?_ GE312.out) | exact HB.out)⟩
          · rw [if_neg c78] at H
            have c78b0 : (t345 == t346) = false := by simpa using c78
            (try (have c78b1 : decide (t345 = t346) = false := by simpa using c78))
            (try (have c78b2 : (t345 == t346) = false := by simpa using c78))
            (try (have c78b3 : ¬ (t345 = t346) := by simpa using c78))
            clear c78
            obtain rfl := Option.some.inj H
            try go_wp2
            have n0_ := Aside0.mk (blk_drew BK304.out)
            have n1_ := Aside0.mk (blk_drew BK312.out)
            have n2_ := Aside0.mk (below_drew1 HB.out)
            clear BK304
            clear BK312
            clear HB
            have BK304 := n0_
            have BK312 := n1_
            have HB := n2_
            clear n0_ n1_ n2_
            refine start_ (n := 13) (S := fun w' => w'.cell? ⟨gb312, 0, none⟩ = some (.int .i64 x313000_14) ∧ w'.cell? ⟨gb312, 1, none⟩ = some (.int .i64 x313001_14) ∧ w'.cell? ⟨gb312, 2, none⟩ = some (.int .i64 x313002_14) ∧ w'.cell? ⟨gb312, 3, none⟩ = some (.int .i64 x313003_14) ∧ w'.cell? ⟨gb312, 4, none⟩ = some (.int .i64 x313004_14) ∧ w'.cell? ⟨gb312, 5, none⟩ = some (.int .i64 x313005_14)) (ds := []) #[false, false, false, false, false, false, false, false, false, false, false, false, false] (by kernel_rfl) rfl rfl ⟨(blk_cell BK312.out 0).trans rfl, (blk_cell BK312.out 1).trans rfl, (blk_cell BK312.out 2).trans rfl, (blk_cell BK312.out 3).trans rfl, (blk_cell BK312.out 4).trans rfl, (blk_cell BK312.out 5).trans rfl⟩ (fun hHeld => ?_); refine with_tabW interlocutorlaw1_CivilRight.tab20 interlocutorlaw1_CivilRight.bits20 (fun HT_ HW_ => ?_)
            generalize wc.drew = w86 at BK304 BK312 HB hHeld ⊢
            refine take_ (i := 0) (N := some 94) (v := ?_) (a' := ?_) #[true, false, false, false, false, false, false, false, false, false, false, false, false] rfl rfl (take_ofW HT_.out HW_.out (by kernel_rfl)) (fun _ _ _ h => h) (Or.inl ⟨by rfl, ?_⟩) hHeld ?_ ?_
            rotate_left
            · rintro w' ⟨s0, s1, s2, s3, s4, s5⟩
              go_simp
              with_reducible rfl
            rotate_left
            · simp only [Act.put, List.setIfInBounds_toArray, List.set_cons_zero, List.set_cons_succ, i64_w, i32_w]
              rfl
            refine take_ (i := 2) (N := some 96) (v := ?_) (a' := ?_) #[true, false, true, false, false, false, false, false, false, false, false, false, false] rfl rfl (take_ofW HT_.out HW_.out (by kernel_rfl)) (fun _ _ _ h => h) (Or.inl ⟨by rfl, ?_⟩) hHeld ?_ ?_
            rotate_left
            · rintro w' ⟨s0, s1, s2, s3, s4, s5⟩
              go_simp
              with_reducible rfl
            rotate_left
            · simp only [Act.put, List.setIfInBounds_toArray, List.set_cons_zero, List.set_cons_succ, i64_w, i32_w]
              rfl
            refine one_ (i := 1) (N := some 95) #[true, true, true, false, false, false, false, false, false, false, false, false, false] rfl rfl (one_of HT_.out (by kernel_rfl)) (by decide) (fun K hK => ?_)
            refine goes_ Try.func27 (by kernel_rfl) rfl #[.agg #[.int .i64 x313000_14, .int .i64 x313001_14, .int .i64 x313002_14, .int .i64 x313003_14, .int .i64 x313004_14, .int .i64 x313005_14]] (by rfl) rfl rfl (by (try simp only [List.map_toArray, List.map_cons, List.map_nil]); first | done | rfl | (simp only [List.length_drop, List.length_take]; rfl)) ?_
            with_reducible refine (civil_Right.calls x313000_14 x313001_14 x313002_14 x313003_14 x313004_14 x313005_14 t345 _ A76.out).mono ?_
            rintro e w87 ⟨rfl, hb⟩
            refine ⟨_, rfl, ?_⟩
            have n0_ := Aside0.mk (blk_below (g := gb304) (o := .cells #[.int .i64 a0_0, .int .i64 a0_1, .int .i64 a0_2, .int .i64 a0_3, .int .i64 a0_4, .int .i64 a0_5] 36 (0, 0)) (by (with_reducible repeat (first | refine blk_drewN ?_ _ | refine blk_drew ?_ | refine blk_alloc ?_ _)); exact BK304.out) hb)
            have n1_ := Aside0.mk (blk_below (g := gb312) (o := .cells #[.int .i64 x313000_14, .int .i64 x313001_14, .int .i64 x313002_14, .int .i64 x313003_14, .int .i64 x313004_14, .int .i64 x313005_14] 36 (0, 0)) (by (with_reducible repeat (first | refine blk_drewN ?_ _ | refine blk_drew ?_ | refine blk_alloc ?_ _)); exact BK312.out) hb)
            have n2_ := Aside0.mk (below_step (by repeat (first | (with_reducible first | exact HB.out | apply below_alloc | apply pw_below_drewN | apply below_drew1 | refine below_set ?_ GE304.out | refine below_set ?_ GE312.out) | exact HB.out)) hb)
            clear BK304
            clear BK312
            clear HB
            have BK304 := n0_
            have BK312 := n1_
            have HB := n2_
            clear n0_ n1_ n2_
            (try clear hb)
            (try clear hb2)
            (try clear hk)
            (try clear hi)
            refine hK.out _ _ ⟨(blk_cell BK312.out 0).trans rfl, (blk_cell BK312.out 1).trans rfl, (blk_cell BK312.out 2).trans rfl, (blk_cell BK312.out 3).trans rfl, (blk_cell BK312.out 4).trans rfl, (blk_cell BK312.out 5).trans rfl⟩ (fun hHeld => ?_)
            clear hK K
            refine norm_ (a' := ?_) ?_ ?_
            rotate_left
            · show Act.put _ (some 95) _ = _
              simp only [Act.put, List.setIfInBounds_toArray, List.set_cons_zero, List.set_cons_succ, i64_w, i32_w]
              rfl
            refine one_ (i := 3) (N := some 97) #[true, true, true, true, false, false, false, false, false, false, false, false, false] rfl rfl (one_of HT_.out (by kernel_rfl)) (by decide) (fun K hK => ?_)
            refine goes_ Try.func28 (by kernel_rfl) rfl #[.agg #[.int .i64 x313000_14, .int .i64 x313001_14, .int .i64 x313002_14, .int .i64 x313003_14, .int .i64 x313004_14, .int .i64 x313005_14]] (by rfl) rfl rfl (by (try simp only [List.map_toArray, List.map_cons, List.map_nil]); first | done | rfl | (simp only [List.length_drop, List.length_take]; rfl)) ?_
            with_reducible refine (interlocutorref1_Right.calls x313000_14 x313001_14 x313002_14 x313003_14 x313004_14 x313005_14 t346 _ A77.out).mono ?_
            rintro e w88 ⟨rfl, hb⟩
            refine ⟨_, rfl, ?_⟩
            have n0_ := Aside0.mk (blk_below (g := gb304) (o := .cells #[.int .i64 a0_0, .int .i64 a0_1, .int .i64 a0_2, .int .i64 a0_3, .int .i64 a0_4, .int .i64 a0_5] 36 (0, 0)) (by (with_reducible repeat (first | refine blk_drewN ?_ _ | refine blk_drew ?_ | refine blk_alloc ?_ _)); exact BK304.out) hb)
            have n1_ := Aside0.mk (blk_below (g := gb312) (o := .cells #[.int .i64 x313000_14, .int .i64 x313001_14, .int .i64 x313002_14, .int .i64 x313003_14, .int .i64 x313004_14, .int .i64 x313005_14] 36 (0, 0)) (by (with_reducible repeat (first | refine blk_drewN ?_ _ | refine blk_drew ?_ | refine blk_alloc ?_ _)); exact BK312.out) hb)
            have n2_ := Aside0.mk (below_step (by repeat (first | (with_reducible first | exact HB.out | apply below_alloc | apply pw_below_drewN | apply below_drew1 | refine below_set ?_ GE304.out | refine below_set ?_ GE312.out) | exact HB.out)) hb)
            clear BK304
            clear BK312
            clear HB
            have BK304 := n0_
            have BK312 := n1_
            have HB := n2_
            clear n0_ n1_ n2_
            (try clear hb)
            (try clear hb2)
            (try clear hk)
            (try clear hi)
            refine hK.out _ _ ⟨(blk_cell BK312.out 0).trans rfl, (blk_cell BK312.out 1).trans rfl, (blk_cell BK312.out 2).trans rfl, (blk_cell BK312.out 3).trans rfl, (blk_cell BK312.out 4).trans rfl, (blk_cell BK312.out 5).trans rfl⟩ (fun hHeld => ?_)
            clear hK K
            refine norm_ (a' := ?_) ?_ ?_
            rotate_left
            · show Act.put _ (some 97) _ = _
              simp only [Act.put, List.setIfInBounds_toArray, List.set_cons_zero, List.set_cons_succ, i64_w, i32_w]
              rfl
            refine pure_ (i := 4) (N := some 98) (v := ?_) (a' := ?_) #[true, true, true, true, true, false, false, false, false, false, false, false, false] rfl rfl (any_of HT_.out (by kernel_rfl)) (fun _ _ _ h => h) (Or.inl ⟨by rfl, ?_⟩) ?_ ?_
            rotate_left
            · intro w'
              go_simp
              with_reducible rfl
            rotate_left
            · simp only [Act.put, List.setIfInBounds_toArray, List.set_cons_zero, List.set_cons_succ, i64_w, i32_w]
              rfl
            refine pure_ (i := 5) (N := some 99) (v := ?_) (a' := ?_) #[true, true, true, true, true, true, false, false, false, false, false, false, false] rfl rfl (any_of HT_.out (by kernel_rfl)) (fun _ _ _ h => h) (Or.inl ⟨by rfl, ?_⟩) ?_ ?_
            rotate_left
            · intro w'
              go_simp
              with_reducible rfl
            rotate_left
            · simp only [Act.put, List.setIfInBounds_toArray, List.set_cons_zero, List.set_cons_succ, i64_w, i32_w]
              rfl
            refine pure_ (i := 6) (N := some 100) (v := undef) (a' := ?_) #[true, true, true, true, true, true, true, false, false, false, false, false, false] rfl rfl (any_of HT_.out (by kernel_rfl)) (fun _ _ _ h => h) (Or.inr ⟨by rfl, rfl⟩) ?_ ?_
            rotate_left
            · simp only [Act.put, List.setIfInBounds_toArray, List.set_cons_zero, List.set_cons_succ, i64_w, i32_w]
              rfl
            refine pure_ (i := 7) (N := some 101) (v := undef) (a' := ?_) #[true, true, true, true, true, true, true, true, false, false, false, false, false] rfl rfl (any_of HT_.out (by kernel_rfl)) (fun _ _ _ h => h) (Or.inr ⟨by rfl, rfl⟩) ?_ ?_
            rotate_left
            · simp only [Act.put, List.setIfInBounds_toArray, List.set_cons_zero, List.set_cons_succ, i64_w, i32_w]
              rfl
            refine pure_ (i := 8) (N := some 102) (v := undef) (a' := ?_) #[true, true, true, true, true, true, true, true, true, false, false, false, false] rfl rfl (any_of HT_.out (by kernel_rfl)) (fun _ _ _ h => h) (Or.inr ⟨by rfl, rfl⟩) ?_ ?_
            rotate_left
            · simp only [Act.put, List.setIfInBounds_toArray, List.set_cons_zero, List.set_cons_succ, i64_w, i32_w]
              rfl
            refine pure_ (i := 9) (N := some 103) (v := undef) (a' := ?_) #[true, true, true, true, true, true, true, true, true, true, false, false, false] rfl rfl (any_of HT_.out (by kernel_rfl)) (fun _ _ _ h => h) (Or.inr ⟨by rfl, rfl⟩) ?_ ?_
            rotate_left
            · simp only [Act.put, List.setIfInBounds_toArray, List.set_cons_zero, List.set_cons_succ, i64_w, i32_w]
              rfl
            refine pure_ (i := 10) (N := some 104) (v := undef) (a' := ?_) #[true, true, true, true, true, true, true, true, true, true, true, false, false] rfl rfl (any_of HT_.out (by kernel_rfl)) (fun _ _ _ h => h) (Or.inr ⟨by rfl, rfl⟩) ?_ ?_
            rotate_left
            · simp only [Act.put, List.setIfInBounds_toArray, List.set_cons_zero, List.set_cons_succ, i64_w, i32_w]
              rfl
            refine pure_ (i := 11) (N := some 105) (v := ?_) (a' := ?_) #[true, true, true, true, true, true, true, true, true, true, true, true, false] rfl rfl (any_of HT_.out (by kernel_rfl)) (fun _ _ _ h => h) (Or.inl ⟨by rfl, ?_⟩) ?_ ?_
            rotate_left
            · intro w'
              go_simp
              with_reducible rfl
            rotate_left
            · simp only [Act.put, List.setIfInBounds_toArray, List.set_cons_zero, List.set_cons_succ, i64_w, i32_w]
              rfl
            refine pure_ (i := 12) (N := some 10) (v := ?_) (a' := ?_) #[true, true, true, true, true, true, true, true, true, true, true, true, true] rfl rfl (any_of HT_.out (by kernel_rfl)) (fun _ _ _ h => h) (Or.inl ⟨by rfl, ?_⟩) ?_ ?_
            rotate_left
            · intro w'
              go_simp
              with_reducible rfl
            rotate_left
            · simp only [Act.put, List.setIfInBounds_toArray, List.set_cons_zero, List.set_cons_succ, i64_w, i32_w]
              rfl
            refine done_ (done_of HT_.out (by kernel_rfl)) ?_
            try go_wp2
            go_ret
            exact ⟨by first | rfl | (simp [errW_none, errW_some] <;> rfl) | (simp [*, errW_none, errW_some] <;> rfl), by repeat (first | (with_reducible first | exact HB.out | apply below_alloc | apply pw_below_drewN | apply below_drew1 | refine below_set ?_ GE304.out | refine below_set ?_ GE312.out) | exact HB.out)⟩
    · replace c13 := Bool.eq_false_iff.mpr c13
      subst c13
      have H1 : (some false) = some r := by rw [if_neg (show ¬ (false = true) by decide)] at H; exact H
      clear H
      have H := H1
      clear H1
      obtain rfl := Option.some.inj H
      go_enter Try.func13, Try.ntmps13
      go_wp2_with (first | ((with_reducible refine gate_dst (N := 5) rfl ?_); refine box_event ?hg (N := 5) ?hd (cs := #[.int .i64 a0_0, .int .i64 a0_1, .int .i64 a0_2, .int .i64 a0_3, .int .i64 a0_4, .int .i64 a0_5]) (t := 36) ?hr ?_; (case hd => rfl); (case hg => rfl); (case hr => first | (go_simp; done) | (go_simp; rfl)); intro gb304 hg w89 hbox hb; have n0_ := Aside0.mk (below_step (by repeat (first | (with_reducible first | exact HB.out | apply below_alloc | apply pw_below_drewN | apply below_drew1) | exact HB.out)) hb); have n1_ := Aside0.mk (hbox); have n2_ := Aside0.mk ((by rw [hg]; exact (below_size (by repeat (first | (with_reducible first | exact HB.out | apply below_alloc | apply pw_below_drewN | apply below_drew1) | exact HB.out))) : w.heap.size ≤ gb304)); have n3_ := Aside0.mk ((by rw [hg]; exact (below_size (by repeat (first | (with_reducible first | exact HB.out | apply below_alloc | apply pw_below_drewN | apply below_drew1) | exact HB.out))) : w.heap.size ≤ gb304)); clear HB; have HB := n0_; have BK304 := n1_; have GW304 := n2_; have GE304 := n3_; clear n0_ n1_ n2_ n3_; clear hb hbox hg) | ((with_reducible refine gate_callee (f := 14) rfl ?_); refine goesL_ (some 15) rfl rfl Try.func14 (by kernel_rfl) rfl #[] rfl (by (try simp only [List.map_toArray, List.map_cons, List.map_nil]); first | done | rfl | (simp only [List.length_drop, List.length_take]; rfl)) ?_; (with_reducible refine (interlocutorlaw1_known.calls  true _ A6.out).mono ?_); rintro e w90 ⟨rfl, hb⟩; refine ⟨_, rfl, ?_⟩; have n0_ := Aside0.mk (blk_below (g := gb304) (o := .cells #[.int .i64 a0_0, .int .i64 a0_1, .int .i64 a0_2, .int .i64 a0_3, .int .i64 a0_4, .int .i64 a0_5] 36 (0, 0)) (by (with_reducible repeat (first | refine blk_drewN ?_ _ | refine blk_drew ?_ | refine blk_alloc ?_ _)); exact BK304.out) hb); have n1_ := Aside0.mk (below_step (by repeat (first | (with_reducible first | exact HB.out | apply below_alloc | apply pw_below_drewN | apply below_drew1 | refine below_set ?_ GE304.out) | exact HB.out)) hb); clear BK304; clear HB; have BK304 := n0_; have HB := n1_; clear n0_ n1_; (try clear hb); (try clear hb2); (try clear hk); (try clear hi)) | ((with_reducible refine gate_callee (f := 15) rfl ?_); refine goesL_ (some 19) rfl rfl Try.func15 (by kernel_rfl) rfl #[.int .i64 a1, .bool false] rfl (by (try simp only [List.map_toArray, List.map_cons, List.map_nil]); first | done | rfl | (simp only [List.length_drop, List.length_take]; rfl)) ?_; (with_reducible refine (interlocutorlaw1_Day.calls a1 false t306 t307 t308 _ A8.out).mono ?_); rintro e w' ⟨rfl, ⟨nd, rfl⟩⟩; refine ⟨_, rfl, ?_⟩; (try (rw [drewN_self w90]; generalize hq_ : World.drewN w90 _ = w90; have n0_ : Aside0 (w90.heap[gb304]? = some (.cells #[.int .i64 a0_0, .int .i64 a0_1, .int .i64 a0_2, .int .i64 a0_3, .int .i64 a0_4, .int .i64 a0_5] 36 (0, 0))) := ⟨by rw [← hq_]; exact (by (with_reducible repeat (first | refine blk_drewN ?_ _ | refine blk_drew ?_ | refine blk_alloc ?_ _)); exact BK304.out)⟩; have n1_ : Aside0 (Below w.heap.size w w90) := ⟨by rw [← hq_]; exact (by repeat (first | (with_reducible first | exact HB.out | apply below_alloc | apply pw_below_drewN | apply below_drew1 | refine below_set ?_ GE304.out) | exact HB.out))⟩; clear BK304 HB hq_; have BK304 := n0_; have HB := n1_; clear n0_ n1_))) | ((with_reducible refine gate_callee (f := 22) rfl ?_); refine goesL_ (some 27) rfl rfl Try.func22 (by kernel_rfl) rfl #[.int .i64 a2, .int .i64 24] rfl (by (try simp only [List.map_toArray, List.map_cons, List.map_nil]); first | done | rfl | (simp only [List.length_drop, List.length_take]; rfl)) ?_; (with_reducible refine (interlocutorlaw1_within.calls a2 24 t309 _ A9.out).mono ?_); rintro e w' ⟨rfl, ⟨nd, rfl⟩⟩; refine ⟨_, rfl, ?_⟩; (try (rw [drewN_self w90]; generalize hq_ : World.drewN w90 _ = w90; have n0_ : Aside0 (w90.heap[gb304]? = some (.cells #[.int .i64 a0_0, .int .i64 a0_1, .int .i64 a0_2, .int .i64 a0_3, .int .i64 a0_4, .int .i64 a0_5] 36 (0, 0))) := ⟨by rw [← hq_]; exact (by (with_reducible repeat (first | refine blk_drewN ?_ _ | refine blk_drew ?_ | refine blk_alloc ?_ _)); exact BK304.out)⟩; have n1_ : Aside0 (Below w.heap.size w w90) := ⟨by rw [← hq_]; exact (by repeat (first | (with_reducible first | exact HB.out | apply below_alloc | apply pw_below_drewN | apply below_drew1 | refine below_set ?_ GE304.out) | exact HB.out))⟩; clear BK304 HB hq_; have BK304 := n0_; have HB := n1_; clear n0_ n1_))) | ((with_reducible refine gate_callee (f := 22) rfl ?_); refine goesL_ (some 30) rfl rfl Try.func22 (by kernel_rfl) rfl #[.int .i64 (wrap64 (Int.tdiv a2 24)), .int .i64 60] rfl (by (try simp only [List.map_toArray, List.map_cons, List.map_nil]); first | done | rfl | (simp only [List.length_drop, List.length_take]; rfl)) ?_; (with_reducible refine (interlocutorlaw1_within.calls (wrap64 (Int.tdiv a2 24)) 60 t310 _ A10.out).mono ?_); rintro e w' ⟨rfl, ⟨nd, rfl⟩⟩; refine ⟨_, rfl, ?_⟩; (try (rw [drewN_self w90]; generalize hq_ : World.drewN w90 _ = w90; have n0_ : Aside0 (w90.heap[gb304]? = some (.cells #[.int .i64 a0_0, .int .i64 a0_1, .int .i64 a0_2, .int .i64 a0_3, .int .i64 a0_4, .int .i64 a0_5] 36 (0, 0))) := ⟨by rw [← hq_]; exact (by (with_reducible repeat (first | refine blk_drewN ?_ _ | refine blk_drew ?_ | refine blk_alloc ?_ _)); exact BK304.out)⟩; have n1_ : Aside0 (Below w.heap.size w w90) := ⟨by rw [← hq_]; exact (by repeat (first | (with_reducible first | exact HB.out | apply below_alloc | apply pw_below_drewN | apply below_drew1 | refine below_set ?_ GE304.out) | exact HB.out))⟩; clear BK304 HB hq_; have BK304 := n0_; have HB := n1_; clear n0_ n1_))) | ((with_reducible refine gate_callee (f := 22) rfl ?_); refine goesL_ (some 33) rfl rfl Try.func22 (by kernel_rfl) rfl #[.int .i64 (wrap64 (Int.tdiv a2 1440)), .int .i64 60] rfl (by (try simp only [List.map_toArray, List.map_cons, List.map_nil]); first | done | rfl | (simp only [List.length_drop, List.length_take]; rfl)) ?_; (with_reducible refine (interlocutorlaw1_within.calls (wrap64 (Int.tdiv a2 1440)) 60 t311 _ A11.out).mono ?_); rintro e w' ⟨rfl, ⟨nd, rfl⟩⟩; refine ⟨_, rfl, ?_⟩; (try (rw [drewN_self w90]; generalize hq_ : World.drewN w90 _ = w90; have n0_ : Aside0 (w90.heap[gb304]? = some (.cells #[.int .i64 a0_0, .int .i64 a0_1, .int .i64 a0_2, .int .i64 a0_3, .int .i64 a0_4, .int .i64 a0_5] 36 (0, 0))) := ⟨by rw [← hq_]; exact (by (with_reducible repeat (first | refine blk_drewN ?_ _ | refine blk_drew ?_ | refine blk_alloc ?_ _)); exact BK304.out)⟩; have n1_ : Aside0 (Below w.heap.size w w90) := ⟨by rw [← hq_]; exact (by repeat (first | (with_reducible first | exact HB.out | apply below_alloc | apply pw_below_drewN | apply below_drew1 | refine below_set ?_ GE304.out) | exact HB.out))⟩; clear BK304 HB hq_; have BK304 := n0_; have HB := n1_; clear n0_ n1_))) | ((with_reducible refine gate_dst (N := 14) rfl ?_); refine box_event ?hg (N := 14) ?hd (cs := #[.int .i64 0, .int .i64 0, .int .i64 0, .int .i64 0, .int .i64 0, .int .i64 0]) (t := 36) ?hr ?_; (case hd => rfl); (case hg => rfl); (case hr => first | (go_simp; done) | (go_simp; rfl)); intro gb312 hg w91 hbox hb; have n0_ := Aside0.mk (blk_below (g := gb304) (o := .cells #[.int .i64 a0_0, .int .i64 a0_1, .int .i64 a0_2, .int .i64 a0_3, .int .i64 a0_4, .int .i64 a0_5] 36 (0, 0)) (by (with_reducible repeat (first | refine blk_drewN ?_ _ | refine blk_drew ?_ | refine blk_alloc ?_ _)); exact BK304.out) hb); have n1_ := Aside0.mk (below_step (by repeat (first | (with_reducible first | exact HB.out | apply below_alloc | apply pw_below_drewN | apply below_drew1 | refine below_set ?_ GE304.out) | exact HB.out)) hb); have n2_ := Aside0.mk (hbox); have n3_ := Aside0.mk ((by rw [hg]; exact (below_size (by repeat (first | (with_reducible first | exact HB.out | apply below_alloc | apply pw_below_drewN | apply below_drew1 | refine below_set ?_ GE304.out) | exact HB.out))) : w.heap.size ≤ gb312)); have n4_ := Aside0.mk ((by rw [hg]; exact (below_size (by repeat (first | (with_reducible first | exact HB.out | apply below_alloc | apply pw_below_drewN | apply below_drew1 | refine below_set ?_ GE304.out) | exact HB.out))) : w.heap.size ≤ gb312)); have n5_ := Aside0.mk ((by rw [hg]; exact Nat.ne_of_lt (blk_lt (g := gb304) (o := .cells #[.int .i64 a0_0, .int .i64 a0_1, .int .i64 a0_2, .int .i64 a0_3, .int .i64 a0_4, .int .i64 a0_5] 36 (0, 0)) (by (with_reducible repeat (first | refine blk_drewN ?_ _ | refine blk_drew ?_ | refine blk_alloc ?_ _)); exact BK304.out)) : gb304 ≠ gb312)); have n6_ := Aside0.mk ((by rw [hg]; exact Nat.ne_of_gt (blk_lt (g := gb304) (o := .cells #[.int .i64 a0_0, .int .i64 a0_1, .int .i64 a0_2, .int .i64 a0_3, .int .i64 a0_4, .int .i64 a0_5] 36 (0, 0)) (by (with_reducible repeat (first | refine blk_drewN ?_ _ | refine blk_drew ?_ | refine blk_alloc ?_ _)); exact BK304.out)) : gb312 ≠ gb304)); clear BK304; clear HB; have BK304 := n0_; have HB := n1_; have BK312 := n2_; have GW312 := n3_; have GE312 := n4_; have NB304_312 := n5_; have NB312_304 := n6_; clear n0_ n1_ n2_ n3_ n4_ n5_ n6_; clear hb hbox hg; have hnb92 := NB312_304.out; have hnc92 := NB304_312.out; have hcz93_0 : w91.cell? ⟨gb312, 0, none⟩ = some (.int .i64 0) := (blk_cell BK312.out 0).trans rfl; have hcz93_1 : w91.cell? ⟨gb312, 1, none⟩ = some (.int .i64 0) := (blk_cell BK312.out 1).trans rfl; have hcz93_2 : w91.cell? ⟨gb312, 2, none⟩ = some (.int .i64 0) := (blk_cell BK312.out 2).trans rfl; have hcz93_3 : w91.cell? ⟨gb312, 3, none⟩ = some (.int .i64 0) := (blk_cell BK312.out 3).trans rfl; have hcz93_4 : w91.cell? ⟨gb312, 4, none⟩ = some (.int .i64 0) := (blk_cell BK312.out 4).trans rfl; have hcz93_5 : w91.cell? ⟨gb312, 5, none⟩ = some (.int .i64 0) := (blk_cell BK312.out 5).trans rfl; have hfz93_0 := blk_frozen BK312.out 0; have hfz93_1 := blk_frozen BK312.out 1; have hfz93_2 := blk_frozen BK312.out 2; have hfz93_3 := blk_frozen BK312.out 3; have hfz93_4 := blk_frozen BK312.out 4; have hfz93_5 := blk_frozen BK312.out 5) | ((with_reducible refine gate_callee (f := 27) rfl ?_); refine goesL_ (some 36) rfl rfl Try.func27 (by kernel_rfl) rfl #[.agg #[.int .i64 t306, .int .i64 t307, .int .i64 t308, .int .i64 t309, .int .i64 t310, .int .i64 t311]] rfl (by (try simp only [List.map_toArray, List.map_cons, List.map_nil]); first | done | rfl | (simp only [List.length_drop, List.length_take]; rfl)) ?_; (with_reducible refine (civil_Right.calls t306 t307 t308 t309 t310 t311 false _ A12.out).mono ?_); rintro e w94 ⟨rfl, hb⟩; refine ⟨_, rfl, ?_⟩; have n0_ := Aside0.mk (blk_below (g := gb304) (o := .cells #[.int .i64 a0_0, .int .i64 a0_1, .int .i64 a0_2, .int .i64 a0_3, .int .i64 a0_4, .int .i64 a0_5] 36 (0, 0)) (by (with_reducible repeat (first | refine blk_drewN ?_ _ | refine blk_drew ?_ | refine blk_alloc ?_ _)); refine blk_far ?_ NB304_312.out _; (with_reducible repeat (first | refine blk_drewN ?_ _ | refine blk_drew ?_ | refine blk_alloc ?_ _)); refine blk_far ?_ NB304_312.out _; (with_reducible repeat (first | refine blk_drewN ?_ _ | refine blk_drew ?_ | refine blk_alloc ?_ _)); refine blk_far ?_ NB304_312.out _; (with_reducible repeat (first | refine blk_drewN ?_ _ | refine blk_drew ?_ | refine blk_alloc ?_ _)); refine blk_far ?_ NB304_312.out _; (with_reducible repeat (first | refine blk_drewN ?_ _ | refine blk_drew ?_ | refine blk_alloc ?_ _)); refine blk_far ?_ NB304_312.out _; (with_reducible repeat (first | refine blk_drewN ?_ _ | refine blk_drew ?_ | refine blk_alloc ?_ _)); refine blk_far ?_ NB304_312.out _; (with_reducible repeat (first | refine blk_drewN ?_ _ | refine blk_drew ?_ | refine blk_alloc ?_ _)); exact BK304.out) hb); have n1_ := Aside0.mk (blk_below (g := gb312) (o := .cells #[.int .i64 t306, .int .i64 t307, .int .i64 t308, .int .i64 t309, .int .i64 t310, .int .i64 t311] 36 (0, 0)) (by (with_reducible repeat (first | refine blk_drewN ?_ _ | refine blk_drew ?_ | refine blk_alloc ?_ _)); refine blk_put (cs := #[.int .i64 t306, .int .i64 t307, .int .i64 t308, .int .i64 t309, .int .i64 t310, .int .i64 0]) ?_ 5 _ rfl; (with_reducible repeat (first | refine blk_drewN ?_ _ | refine blk_drew ?_ | refine blk_alloc ?_ _)); refine blk_put (cs := #[.int .i64 t306, .int .i64 t307, .int .i64 t308, .int .i64 t309, .int .i64 0, .int .i64 0]) ?_ 4 _ rfl; (with_reducible repeat (first | refine blk_drewN ?_ _ | refine blk_drew ?_ | refine blk_alloc ?_ _)); refine blk_put (cs := #[.int .i64 t306, .int .i64 t307, .int .i64 t308, .int .i64 0, .int .i64 0, .int .i64 0]) ?_ 3 _ rfl; (with_reducible repeat (first | refine blk_drewN ?_ _ | refine blk_drew ?_ | refine blk_alloc ?_ _)); refine blk_put (cs := #[.int .i64 t306, .int .i64 t307, .int .i64 0, .int .i64 0, .int .i64 0, .int .i64 0]) ?_ 2 _ rfl; (with_reducible repeat (first | refine blk_drewN ?_ _ | refine blk_drew ?_ | refine blk_alloc ?_ _)); refine blk_put (cs := #[.int .i64 t306, .int .i64 0, .int .i64 0, .int .i64 0, .int .i64 0, .int .i64 0]) ?_ 1 _ rfl; (with_reducible repeat (first | refine blk_drewN ?_ _ | refine blk_drew ?_ | refine blk_alloc ?_ _)); refine blk_put (cs := #[.int .i64 0, .int .i64 0, .int .i64 0, .int .i64 0, .int .i64 0, .int .i64 0]) ?_ 0 _ rfl; (with_reducible repeat (first | refine blk_drewN ?_ _ | refine blk_drew ?_ | refine blk_alloc ?_ _)); exact BK312.out) hb); have n2_ := Aside0.mk (below_step (by repeat (first | (with_reducible first | exact HB.out | apply below_alloc | apply pw_below_drewN | apply below_drew1 | refine below_set ?_ GE304.out | refine below_set ?_ GE312.out) | exact HB.out)) hb); clear BK304; clear BK312; clear HB; have BK304 := n0_; have BK312 := n1_; have HB := n2_; clear n0_ n1_ n2_; (try clear hb); (try clear hb2); (try clear hk); (try clear hi)))
      go_ret
      exact ⟨by first | rfl | (simp [errW_none, errW_some] <;> rfl) | (simp [*, errW_none, errW_some] <;> rfl), by repeat (first | (with_reducible first | exact HB.out | apply below_alloc | apply pw_below_drewN | apply below_drew1 | refine below_set ?_ GE304.out | refine below_set ?_ GE312.out) | exact HB.out)⟩
  · replace c7 := Bool.eq_false_iff.mpr c7
    subst c7
    have H1 : (some false) = some r := by rw [if_neg (show ¬ (false = true) by decide)] at H; exact H
    clear H
    have H := H1
    clear H1
    obtain rfl := Option.some.inj H
    go_enter Try.func13, Try.ntmps13
    go_wp2_with (first | ((with_reducible refine gate_dst (N := 5) rfl ?_); refine box_event ?hg (N := 5) ?hd (cs := #[.int .i64 a0_0, .int .i64 a0_1, .int .i64 a0_2, .int .i64 a0_3, .int .i64 a0_4, .int .i64 a0_5]) (t := 36) ?hr ?_; (case hd => rfl); (case hg => rfl); (case hr => first | (go_simp; done) | (go_simp; rfl)); intro gb304 hg w95 hbox hb; have n0_ := Aside0.mk (below_step (by repeat (first | (with_reducible first | exact HB.out | apply below_alloc | apply pw_below_drewN | apply below_drew1) | exact HB.out)) hb); have n1_ := Aside0.mk (hbox); have n2_ := Aside0.mk ((by rw [hg]; exact (below_size (by repeat (first | (with_reducible first | exact HB.out | apply below_alloc | apply pw_below_drewN | apply below_drew1) | exact HB.out))) : w.heap.size ≤ gb304)); have n3_ := Aside0.mk ((by rw [hg]; exact (below_size (by repeat (first | (with_reducible first | exact HB.out | apply below_alloc | apply pw_below_drewN | apply below_drew1) | exact HB.out))) : w.heap.size ≤ gb304)); clear HB; have HB := n0_; have BK304 := n1_; have GW304 := n2_; have GE304 := n3_; clear n0_ n1_ n2_ n3_; clear hb hbox hg) | ((with_reducible refine gate_callee (f := 14) rfl ?_); refine goesL_ (some 15) rfl rfl Try.func14 (by kernel_rfl) rfl #[] rfl (by (try simp only [List.map_toArray, List.map_cons, List.map_nil]); first | done | rfl | (simp only [List.length_drop, List.length_take]; rfl)) ?_; (with_reducible refine (interlocutorlaw1_known.calls  false _ A6.out).mono ?_); rintro e w96 ⟨rfl, hb⟩; refine ⟨_, rfl, ?_⟩; have n0_ := Aside0.mk (blk_below (g := gb304) (o := .cells #[.int .i64 a0_0, .int .i64 a0_1, .int .i64 a0_2, .int .i64 a0_3, .int .i64 a0_4, .int .i64 a0_5] 36 (0, 0)) (by (with_reducible repeat (first | refine blk_drewN ?_ _ | refine blk_drew ?_ | refine blk_alloc ?_ _)); exact BK304.out) hb); have n1_ := Aside0.mk (below_step (by repeat (first | (with_reducible first | exact HB.out | apply below_alloc | apply pw_below_drewN | apply below_drew1 | refine below_set ?_ GE304.out) | exact HB.out)) hb); clear BK304; clear HB; have BK304 := n0_; have HB := n1_; clear n0_ n1_; (try clear hb); (try clear hb2); (try clear hk); (try clear hi)))
    go_ret
    exact ⟨by first | rfl | (simp [errW_none, errW_some] <;> rfl) | (simp [*, errW_none, errW_some] <;> rfl), by repeat (first | (with_reducible first | exact HB.out | apply below_alloc | apply pw_below_drewN | apply below_drew1 | refine below_set ?_ GE304.out) | exact HB.out)⟩

end Go.Proofs.Ytbdabmegbhobiaa.PCiv
