/- Each call of a function that is printed here answers what its plain Lean function answers; written by a program of this session (wip/myprint.py) over the kit's print. Conditions: that the plain function answers. -/
import Derived.Test.YtldfljlklfhjkaaPPkx0
import Derived.Test.YtldfljlklfhjkaaPPkx6
import Derived.Test.YtldfljlklfhjkaaPPkx8
namespace Go.Proofs.Ytldfljlklfhjkaa.PPk
open Go.RowKit Go.Proofs.YtldfljlklfhjkaaW.PrintWords Go.Proofs.YtldfljlklfhjkaaW.PrintLast Go.Proofs.YtldfljlklfhjkaaW.PrintMore
attribute [local go_sem] max2_int min2_int max_two min_two max_three min_three max_four min_four   -- for this text's walks alone
set_option linter.unusedVariables false
set_option linter.unusedSimpArgs false

/-! ### interlocutorlaw8_ActPicks: function 12 -/
mutual
def interlocutorlaw8_ActPicks.j0 : Nat → Int → List (S27) → Int → List (S27) → Bool → Int → List Int → Option (Bool)
  | 0, _, _, _, _, _, _, _ => none
  | k + 1, x2, x7, x8, x9, x61, x359000, x359001 => if x61 = true then (some false) else (interlocutorlaw8_ActPicks.l0 k x2 x7 x8 x9 0 x359000 x359001)
def interlocutorlaw8_ActPicks.l0 : Nat → Int → List (S27) → Int → List (S27) → Int → Int → List Int → Option (Bool)
  | 0, _, _, _, _, _, _, _ => none
  | k + 1, x2, x7, x8, x9, x12, x359000, x359001 => if x12 < (x359001.length : Int) then (if 0 ≤ x12 then (interlocutorlaw8_ActPicks.l0 k x2 x7 x8 x9 (wrap64 (x12 + 1)) x359000 (x359001.set (x12 : Int).toNat x2)) else (none)) else (if 0 ≤ x8 then (if x8 < (x7.length : Int) then (if x8 < (x9.length : Int) then ((interlocutorref10_Cmp.f k ((rd_T27 x7 x8).f0) ((rd_T27 x7 x8).f1) ((rd_T27 x9 x8).f0) ((rd_T27 x9 x8).f1)).bind fun t364 => (some (t364 == 0))) else (none)) else (none)) else (none))
end
def interlocutorlaw8_ActPicks.f (k : Nat) (a0 : Int) (a1 : Int) (a2 : Int) : Option (Bool) := (interlocutorlaw8_known.f).bind fun t306 => (if t306 = true then ((interlocutorlaw8_within.f a0 1099511627776).bind fun t307 => ((interlocutorlaw8_Child.f k t307).bind fun bt308 => ((interlocutorlaw8_within.f a0 1099511627776).bind fun t312 => ((interlocutorlaw8_Child.f k (wrap64 (t312 + 1))).bind fun bt313 => ((interlocutorlaw8_within.f a0 1099511627776).bind fun t317 => ((interlocutorlaw8_Child.f k (wrap64 (t317 + 6))).bind fun bt318 => ((some (([(⟨bt308.1, bt308.2⟩ : S27), (⟨bt313.1, bt313.2⟩ : S27), (⟨bt318.1, bt318.2⟩ : S27)] : List (S27)) : List (S27))).bind fun y322 => ((interlocutorlaw8_within.f a1 3).bind fun t325 => ((interlocutorlaw8_within.f a0 1099511627776).bind fun t326 => ((interlocutorlaw8_Child.f k t326).bind fun bt327 => ((interlocutorlaw8_within.f a0 1099511627776).bind fun t331 => ((interlocutorlaw8_Child.f k (wrap64 (t331 + 1))).bind fun bt332 => ((interlocutorlaw8_within.f a0 1099511627776).bind fun t336 => ((interlocutorlaw8_Child.f k (wrap64 (t336 + 6))).bind fun bt337 => ((some (([(⟨bt327.1, bt327.2⟩ : S27), (⟨bt332.1, bt332.2⟩ : S27), (⟨bt337.1, bt337.2⟩ : S27)] : List (S27)) : List (S27))).bind fun y341 => ((interlocutorlaw8_Ref.f a0).bind fun bt347 => ((act_Do.f k 0 (([t325] : List Int)) y322 bt347.1 bt347.2.1 bt347.2.2.1 bt347.2.2.2.1 bt347.2.2.2.2.1 bt347.2.2.2.2.2).bind fun bt353 => (if bt353.2.2 = true then (if 0 ≤ t325 then (if t325 < (y341.length : Int) then ((interlocutorref10_Cmp.f k bt353.1 bt353.2.1 ((rd_T27 y341 t325).f0) ((rd_T27 y341 t325).f1)).bind fun t360 => (interlocutorlaw8_ActPicks.j0 k a2 y322 t325 y341 (t360 != 0) bt353.1 bt353.2.1)) else (none)) else (none)) else (interlocutorlaw8_ActPicks.j0 k a2 y322 t325 y341 true bt353.1 bt353.2.1))))))))))))))))))) else (some false))
theorem interlocutorlaw8_ActPicks.mono_l : ∀ k, (∀ y0 y1 y2 y3 y4 y5 y6, LeO (interlocutorlaw8_ActPicks.j0 k y0 y1 y2 y3 y4 y5 y6) (interlocutorlaw8_ActPicks.j0 (k + 1) y0 y1 y2 y3 y4 y5 y6)) ∧ (∀ y0 y1 y2 y3 y4 y5 y6, LeO (interlocutorlaw8_ActPicks.l0 k y0 y1 y2 y3 y4 y5 y6) (interlocutorlaw8_ActPicks.l0 (k + 1) y0 y1 y2 y3 y4 y5 y6))
  | 0 => ⟨fun _ _ _ _ _ _ _ r h => by simp [interlocutorlaw8_ActPicks.j0] at h, fun _ _ _ _ _ _ _ r h => by simp [interlocutorlaw8_ActPicks.l0] at h⟩
  | k + 1 => by
    obtain ⟨ih0, ih1⟩ := interlocutorlaw8_ActPicks.mono_l k
    refine ⟨?_, ?_⟩
    · intro y0 y1 y2 y3 y4 y5 y6
      unfold interlocutorlaw8_ActPicks.j0
      repeat' first
      | (with_reducible exact ih0 _ _ _ _ _ _ _)
      | (with_reducible exact ih1 _ _ _ _ _ _ _)
      | (with_reducible exact act_Do.mono _ _ _ _ _ _ _ _ _ _)
      | (with_reducible exact interlocutorlaw8_Child.mono _ _)
      | (with_reducible exact interlocutorref10_Cmp.mono _ _ _ _ _)
      | (with_reducible exact LeO.refl _)
      | (with_reducible exact LeO.none _)
      | (with_reducible refine LeO.ite ?_ ?_)
      | (with_reducible refine LeO.bind ?_ (fun _ => ?_))
      | exact ih0 _ _ _ _ _ _ _
      | exact ih1 _ _ _ _ _ _ _
      | exact act_Do.mono _ _ _ _ _ _ _ _ _ _
      | exact interlocutorlaw8_Child.mono _ _
      | exact interlocutorref10_Cmp.mono _ _ _ _ _
      | exact LeO.none _
      | refine LeO.ite ?_ ?_
      | refine LeO.bind ?_ (fun _ => ?_)
    · intro y0 y1 y2 y3 y4 y5 y6
      unfold interlocutorlaw8_ActPicks.l0
      repeat' first
      | (with_reducible exact ih0 _ _ _ _ _ _ _)
      | (with_reducible exact ih1 _ _ _ _ _ _ _)
      | (with_reducible exact act_Do.mono _ _ _ _ _ _ _ _ _ _)
      | (with_reducible exact interlocutorlaw8_Child.mono _ _)
      | (with_reducible exact interlocutorref10_Cmp.mono _ _ _ _ _)
      | (with_reducible exact LeO.refl _)
      | (with_reducible exact LeO.none _)
      | (with_reducible refine LeO.ite ?_ ?_)
      | (with_reducible refine LeO.bind ?_ (fun _ => ?_))
      | exact ih0 _ _ _ _ _ _ _
      | exact ih1 _ _ _ _ _ _ _
      | exact act_Do.mono _ _ _ _ _ _ _ _ _ _
      | exact interlocutorlaw8_Child.mono _ _
      | exact interlocutorref10_Cmp.mono _ _ _ _ _
      | exact LeO.none _
      | refine LeO.ite ?_ ?_
      | refine LeO.bind ?_ (fun _ => ?_)
theorem interlocutorlaw8_ActPicks.mono : ∀ a0 a1 a2 k, LeO (interlocutorlaw8_ActPicks.f k a0 a1 a2) (interlocutorlaw8_ActPicks.f (k + 1) a0 a1 a2) := by
  intro a0 a1 a2 k
  obtain ⟨ih0, ih1⟩ := interlocutorlaw8_ActPicks.mono_l k
  unfold interlocutorlaw8_ActPicks.f
  repeat' first
      | (with_reducible exact ih0 _ _ _ _ _ _ _)
      | (with_reducible exact ih1 _ _ _ _ _ _ _)
      | (with_reducible exact act_Do.mono _ _ _ _ _ _ _ _ _ _)
      | (with_reducible exact interlocutorlaw8_Child.mono _ _)
      | (with_reducible exact interlocutorref10_Cmp.mono _ _ _ _ _)
      | (with_reducible exact LeO.refl _)
      | (with_reducible exact LeO.none _)
      | (with_reducible refine LeO.ite ?_ ?_)
      | (with_reducible refine LeO.bind ?_ (fun _ => ?_))
      | exact ih0 _ _ _ _ _ _ _
      | exact ih1 _ _ _ _ _ _ _
      | exact act_Do.mono _ _ _ _ _ _ _ _ _ _
      | exact interlocutorlaw8_Child.mono _ _
      | exact interlocutorref10_Cmp.mono _ _ _ _ _
      | exact LeO.none _
      | refine LeO.ite ?_ ?_
      | refine LeO.bind ?_ (fun _ => ?_)
def interlocutorlaw8_ActPicks.T7 : Bool × List (List Nat × List Nat) := (true, [([], []), ([0], [0]), ([1], [1]), ([2], [2]), ([2], [2]), ([2], [2]), ([4, 5, 2], [2, 4, 5]), ([6, 2], [2, 6]), ([3, 7, 2, 2], [2, 3, 7]), ([8, 2], [2, 8]), ([2, 9], [2, 9])])
def interlocutorlaw8_ActPicks.B7 : List Nat := [0, 1, 3, 7, 7, 7, 55, 119, 255, 511, 1023]
theorem interlocutorlaw8_ActPicks.tab7 : rtab .any (opsOf Try.f12 7) = interlocutorlaw8_ActPicks.T7 := by kernel_rfl
theorem interlocutorlaw8_ActPicks.bits7 : waitsOk interlocutorlaw8_ActPicks.T7.2 interlocutorlaw8_ActPicks.B7 = true := by kernel_rfl
def interlocutorlaw8_ActPicks.T13 : Bool × List (List Nat × List Nat) := (true, [([], []), ([], []), ([0, 1], [0, 1]), ([2], [2]), ([], []), ([], []), ([4, 5], [4, 5]), ([6], [6]), ([3, 7], [3, 7]), ([8], [8]), ([9, 8, 0, 1, 2, 3, 4, 5, 6, 7, 8, 9], [9])])
def interlocutorlaw8_ActPicks.B13 : List Nat := [0, 0, 3, 7, 0, 0, 48, 112, 255, 511, 1023]
theorem interlocutorlaw8_ActPicks.tab13 : rtab .any (opsOf Try.f12 13) = interlocutorlaw8_ActPicks.T13 := by kernel_rfl
theorem interlocutorlaw8_ActPicks.bits13 : waitsOk interlocutorlaw8_ActPicks.T13.2 interlocutorlaw8_ActPicks.B13 = true := by kernel_rfl
set_option maxHeartbeats 8000000 in
set_option maxRecDepth 100000 in
theorem interlocutorlaw8_ActPicks.calls (k : Nat) (a0 : Int) (a1 : Int) (a2 : Int) (r : Bool) (w : World) (h : interlocutorlaw8_ActPicks.f k a0 a1 a2 = some r) :
    Calls Try.prog 12 #[.int .i64 a0, .int .i64 a1, .int .i64 a2] w fun e w' => e = .returned (.bool r) ∧ Below w.heap.size w w' := by
  have hu30 := Try.underlying30
  have hu27 := Try.underlying27
  have HB := Aside0.mk (Below.refl w.heap.size w)
  have H : ((interlocutorlaw8_known.f).bind fun t306 => (if t306 = true then ((interlocutorlaw8_within.f a0 1099511627776).bind fun t307 => ((interlocutorlaw8_Child.f k t307).bind fun bt308 => ((interlocutorlaw8_within.f a0 1099511627776).bind fun t312 => ((interlocutorlaw8_Child.f k (wrap64 (t312 + 1))).bind fun bt313 => ((interlocutorlaw8_within.f a0 1099511627776).bind fun t317 => ((interlocutorlaw8_Child.f k (wrap64 (t317 + 6))).bind fun bt318 => ((some (([(⟨bt308.1, bt308.2⟩ : S27), (⟨bt313.1, bt313.2⟩ : S27), (⟨bt318.1, bt318.2⟩ : S27)] : List (S27)) : List (S27))).bind fun y322 => ((interlocutorlaw8_within.f a1 3).bind fun t325 => ((interlocutorlaw8_within.f a0 1099511627776).bind fun t326 => ((interlocutorlaw8_Child.f k t326).bind fun bt327 => ((interlocutorlaw8_within.f a0 1099511627776).bind fun t331 => ((interlocutorlaw8_Child.f k (wrap64 (t331 + 1))).bind fun bt332 => ((interlocutorlaw8_within.f a0 1099511627776).bind fun t336 => ((interlocutorlaw8_Child.f k (wrap64 (t336 + 6))).bind fun bt337 => ((some (([(⟨bt327.1, bt327.2⟩ : S27), (⟨bt332.1, bt332.2⟩ : S27), (⟨bt337.1, bt337.2⟩ : S27)] : List (S27)) : List (S27))).bind fun y341 => ((interlocutorlaw8_Ref.f a0).bind fun bt347 => ((act_Do.f k 0 (([t325] : List Int)) y322 bt347.1 bt347.2.1 bt347.2.2.1 bt347.2.2.2.1 bt347.2.2.2.2.1 bt347.2.2.2.2.2).bind fun bt353 => (if bt353.2.2 = true then (if 0 ≤ t325 then (if t325 < (y341.length : Int) then ((interlocutorref10_Cmp.f k bt353.1 bt353.2.1 ((rd_T27 y341 t325).f0) ((rd_T27 y341 t325).f1)).bind fun t360 => (interlocutorlaw8_ActPicks.j0 k a2 y322 t325 y341 (t360 != 0) bt353.1 bt353.2.1)) else (none)) else (none)) else (interlocutorlaw8_ActPicks.j0 k a2 y322 t325 y341 true bt353.1 bt353.2.1))))))))))))))))))) else (some false))) = some r := h
  clear h
  replace H := Option.bind_eq_some_iff.mp H
  obtain ⟨t306, A40, H⟩ := H
  replace H : (if t306 = true then ((interlocutorlaw8_within.f a0 1099511627776).bind fun t307 => ((interlocutorlaw8_Child.f k t307).bind fun bt308 => ((interlocutorlaw8_within.f a0 1099511627776).bind fun t312 => ((interlocutorlaw8_Child.f k (wrap64 (t312 + 1))).bind fun bt313 => ((interlocutorlaw8_within.f a0 1099511627776).bind fun t317 => ((interlocutorlaw8_Child.f k (wrap64 (t317 + 6))).bind fun bt318 => ((some (([(⟨bt308.1, bt308.2⟩ : S27), (⟨bt313.1, bt313.2⟩ : S27), (⟨bt318.1, bt318.2⟩ : S27)] : List (S27)) : List (S27))).bind fun y322 => ((interlocutorlaw8_within.f a1 3).bind fun t325 => ((interlocutorlaw8_within.f a0 1099511627776).bind fun t326 => ((interlocutorlaw8_Child.f k t326).bind fun bt327 => ((interlocutorlaw8_within.f a0 1099511627776).bind fun t331 => ((interlocutorlaw8_Child.f k (wrap64 (t331 + 1))).bind fun bt332 => ((interlocutorlaw8_within.f a0 1099511627776).bind fun t336 => ((interlocutorlaw8_Child.f k (wrap64 (t336 + 6))).bind fun bt337 => ((some (([(⟨bt327.1, bt327.2⟩ : S27), (⟨bt332.1, bt332.2⟩ : S27), (⟨bt337.1, bt337.2⟩ : S27)] : List (S27)) : List (S27))).bind fun y341 => ((interlocutorlaw8_Ref.f a0).bind fun bt347 => ((act_Do.f k 0 (([t325] : List Int)) y322 bt347.1 bt347.2.1 bt347.2.2.1 bt347.2.2.2.1 bt347.2.2.2.2.1 bt347.2.2.2.2.2).bind fun bt353 => (if bt353.2.2 = true then (if 0 ≤ t325 then (if t325 < (y341.length : Int) then ((interlocutorref10_Cmp.f k bt353.1 bt353.2.1 ((rd_T27 y341 t325).f0) ((rd_T27 y341 t325).f1)).bind fun t360 => (interlocutorlaw8_ActPicks.j0 k a2 y322 t325 y341 (t360 != 0) bt353.1 bt353.2.1)) else (none)) else (none)) else (interlocutorlaw8_ActPicks.j0 k a2 y322 t325 y341 true bt353.1 bt353.2.1))))))))))))))))))) else (some false)) = some r := H
  have A4 := Aside0.mk A40
  clear A40
  by_cases c5 : t306 = true
  · subst c5
    have H1 : ((interlocutorlaw8_within.f a0 1099511627776).bind fun t307 => ((interlocutorlaw8_Child.f k t307).bind fun bt308 => ((interlocutorlaw8_within.f a0 1099511627776).bind fun t312 => ((interlocutorlaw8_Child.f k (wrap64 (t312 + 1))).bind fun bt313 => ((interlocutorlaw8_within.f a0 1099511627776).bind fun t317 => ((interlocutorlaw8_Child.f k (wrap64 (t317 + 6))).bind fun bt318 => ((some (([(⟨bt308.1, bt308.2⟩ : S27), (⟨bt313.1, bt313.2⟩ : S27), (⟨bt318.1, bt318.2⟩ : S27)] : List (S27)) : List (S27))).bind fun y322 => ((interlocutorlaw8_within.f a1 3).bind fun t325 => ((interlocutorlaw8_within.f a0 1099511627776).bind fun t326 => ((interlocutorlaw8_Child.f k t326).bind fun bt327 => ((interlocutorlaw8_within.f a0 1099511627776).bind fun t331 => ((interlocutorlaw8_Child.f k (wrap64 (t331 + 1))).bind fun bt332 => ((interlocutorlaw8_within.f a0 1099511627776).bind fun t336 => ((interlocutorlaw8_Child.f k (wrap64 (t336 + 6))).bind fun bt337 => ((some (([(⟨bt327.1, bt327.2⟩ : S27), (⟨bt332.1, bt332.2⟩ : S27), (⟨bt337.1, bt337.2⟩ : S27)] : List (S27)) : List (S27))).bind fun y341 => ((interlocutorlaw8_Ref.f a0).bind fun bt347 => ((act_Do.f k 0 (([t325] : List Int)) y322 bt347.1 bt347.2.1 bt347.2.2.1 bt347.2.2.2.1 bt347.2.2.2.2.1 bt347.2.2.2.2.2).bind fun bt353 => (if bt353.2.2 = true then (if 0 ≤ t325 then (if t325 < (y341.length : Int) then ((interlocutorref10_Cmp.f k bt353.1 bt353.2.1 ((rd_T27 y341 t325).f0) ((rd_T27 y341 t325).f1)).bind fun t360 => (interlocutorlaw8_ActPicks.j0 k a2 y322 t325 y341 (t360 != 0) bt353.1 bt353.2.1)) else (none)) else (none)) else (interlocutorlaw8_ActPicks.j0 k a2 y322 t325 y341 true bt353.1 bt353.2.1))))))))))))))))))) = some r := by rw [if_pos rfl] at H; exact H
    clear H
    have H := H1
    clear H1
    replace H := Option.bind_eq_some_iff.mp H
    obtain ⟨t307, A60, H⟩ := H
    replace H : ((interlocutorlaw8_Child.f k t307).bind fun bt308 => ((interlocutorlaw8_within.f a0 1099511627776).bind fun t312 => ((interlocutorlaw8_Child.f k (wrap64 (t312 + 1))).bind fun bt313 => ((interlocutorlaw8_within.f a0 1099511627776).bind fun t317 => ((interlocutorlaw8_Child.f k (wrap64 (t317 + 6))).bind fun bt318 => ((some (([(⟨bt308.1, bt308.2⟩ : S27), (⟨bt313.1, bt313.2⟩ : S27), (⟨bt318.1, bt318.2⟩ : S27)] : List (S27)) : List (S27))).bind fun y322 => ((interlocutorlaw8_within.f a1 3).bind fun t325 => ((interlocutorlaw8_within.f a0 1099511627776).bind fun t326 => ((interlocutorlaw8_Child.f k t326).bind fun bt327 => ((interlocutorlaw8_within.f a0 1099511627776).bind fun t331 => ((interlocutorlaw8_Child.f k (wrap64 (t331 + 1))).bind fun bt332 => ((interlocutorlaw8_within.f a0 1099511627776).bind fun t336 => ((interlocutorlaw8_Child.f k (wrap64 (t336 + 6))).bind fun bt337 => ((some (([(⟨bt327.1, bt327.2⟩ : S27), (⟨bt332.1, bt332.2⟩ : S27), (⟨bt337.1, bt337.2⟩ : S27)] : List (S27)) : List (S27))).bind fun y341 => ((interlocutorlaw8_Ref.f a0).bind fun bt347 => ((act_Do.f k 0 (([t325] : List Int)) y322 bt347.1 bt347.2.1 bt347.2.2.1 bt347.2.2.2.1 bt347.2.2.2.2.1 bt347.2.2.2.2.2).bind fun bt353 => (if bt353.2.2 = true then (if 0 ≤ t325 then (if t325 < (y341.length : Int) then ((interlocutorref10_Cmp.f k bt353.1 bt353.2.1 ((rd_T27 y341 t325).f0) ((rd_T27 y341 t325).f1)).bind fun t360 => (interlocutorlaw8_ActPicks.j0 k a2 y322 t325 y341 (t360 != 0) bt353.1 bt353.2.1)) else (none)) else (none)) else (interlocutorlaw8_ActPicks.j0 k a2 y322 t325 y341 true bt353.1 bt353.2.1)))))))))))))))))) = some r := H
    have A6 := Aside0.mk A60
    clear A60
    replace H := Option.bind_eq_some_iff.mp H
    obtain ⟨⟨t308, t309⟩, A70, H⟩ := H
    replace H : ((interlocutorlaw8_within.f a0 1099511627776).bind fun t312 => ((interlocutorlaw8_Child.f k (wrap64 (t312 + 1))).bind fun bt313 => ((interlocutorlaw8_within.f a0 1099511627776).bind fun t317 => ((interlocutorlaw8_Child.f k (wrap64 (t317 + 6))).bind fun bt318 => ((some (([(⟨t308, t309⟩ : S27), (⟨bt313.1, bt313.2⟩ : S27), (⟨bt318.1, bt318.2⟩ : S27)] : List (S27)) : List (S27))).bind fun y322 => ((interlocutorlaw8_within.f a1 3).bind fun t325 => ((interlocutorlaw8_within.f a0 1099511627776).bind fun t326 => ((interlocutorlaw8_Child.f k t326).bind fun bt327 => ((interlocutorlaw8_within.f a0 1099511627776).bind fun t331 => ((interlocutorlaw8_Child.f k (wrap64 (t331 + 1))).bind fun bt332 => ((interlocutorlaw8_within.f a0 1099511627776).bind fun t336 => ((interlocutorlaw8_Child.f k (wrap64 (t336 + 6))).bind fun bt337 => ((some (([(⟨bt327.1, bt327.2⟩ : S27), (⟨bt332.1, bt332.2⟩ : S27), (⟨bt337.1, bt337.2⟩ : S27)] : List (S27)) : List (S27))).bind fun y341 => ((interlocutorlaw8_Ref.f a0).bind fun bt347 => ((act_Do.f k 0 (([t325] : List Int)) y322 bt347.1 bt347.2.1 bt347.2.2.1 bt347.2.2.2.1 bt347.2.2.2.2.1 bt347.2.2.2.2.2).bind fun bt353 => (if bt353.2.2 = true then (if 0 ≤ t325 then (if t325 < (y341.length : Int) then ((interlocutorref10_Cmp.f k bt353.1 bt353.2.1 ((rd_T27 y341 t325).f0) ((rd_T27 y341 t325).f1)).bind fun t360 => (interlocutorlaw8_ActPicks.j0 k a2 y322 t325 y341 (t360 != 0) bt353.1 bt353.2.1)) else (none)) else (none)) else (interlocutorlaw8_ActPicks.j0 k a2 y322 t325 y341 true bt353.1 bt353.2.1))))))))))))))))) = some r := H
    have A7 := Aside0.mk A70
    clear A70
    replace H := Option.bind_eq_some_iff.mp H
    obtain ⟨t312, A80, H⟩ := H
    replace H : ((interlocutorlaw8_Child.f k (wrap64 (t312 + 1))).bind fun bt313 => ((interlocutorlaw8_within.f a0 1099511627776).bind fun t317 => ((interlocutorlaw8_Child.f k (wrap64 (t317 + 6))).bind fun bt318 => ((some (([(⟨t308, t309⟩ : S27), (⟨bt313.1, bt313.2⟩ : S27), (⟨bt318.1, bt318.2⟩ : S27)] : List (S27)) : List (S27))).bind fun y322 => ((interlocutorlaw8_within.f a1 3).bind fun t325 => ((interlocutorlaw8_within.f a0 1099511627776).bind fun t326 => ((interlocutorlaw8_Child.f k t326).bind fun bt327 => ((interlocutorlaw8_within.f a0 1099511627776).bind fun t331 => ((interlocutorlaw8_Child.f k (wrap64 (t331 + 1))).bind fun bt332 => ((interlocutorlaw8_within.f a0 1099511627776).bind fun t336 => ((interlocutorlaw8_Child.f k (wrap64 (t336 + 6))).bind fun bt337 => ((some (([(⟨bt327.1, bt327.2⟩ : S27), (⟨bt332.1, bt332.2⟩ : S27), (⟨bt337.1, bt337.2⟩ : S27)] : List (S27)) : List (S27))).bind fun y341 => ((interlocutorlaw8_Ref.f a0).bind fun bt347 => ((act_Do.f k 0 (([t325] : List Int)) y322 bt347.1 bt347.2.1 bt347.2.2.1 bt347.2.2.2.1 bt347.2.2.2.2.1 bt347.2.2.2.2.2).bind fun bt353 => (if bt353.2.2 = true then (if 0 ≤ t325 then (if t325 < (y341.length : Int) then ((interlocutorref10_Cmp.f k bt353.1 bt353.2.1 ((rd_T27 y341 t325).f0) ((rd_T27 y341 t325).f1)).bind fun t360 => (interlocutorlaw8_ActPicks.j0 k a2 y322 t325 y341 (t360 != 0) bt353.1 bt353.2.1)) else (none)) else (none)) else (interlocutorlaw8_ActPicks.j0 k a2 y322 t325 y341 true bt353.1 bt353.2.1)))))))))))))))) = some r := H
    have A8 := Aside0.mk A80
    clear A80
    replace H := Option.bind_eq_some_iff.mp H
    obtain ⟨⟨t313, t314⟩, A90, H⟩ := H
    replace H : ((interlocutorlaw8_within.f a0 1099511627776).bind fun t317 => ((interlocutorlaw8_Child.f k (wrap64 (t317 + 6))).bind fun bt318 => ((some (([(⟨t308, t309⟩ : S27), (⟨t313, t314⟩ : S27), (⟨bt318.1, bt318.2⟩ : S27)] : List (S27)) : List (S27))).bind fun y322 => ((interlocutorlaw8_within.f a1 3).bind fun t325 => ((interlocutorlaw8_within.f a0 1099511627776).bind fun t326 => ((interlocutorlaw8_Child.f k t326).bind fun bt327 => ((interlocutorlaw8_within.f a0 1099511627776).bind fun t331 => ((interlocutorlaw8_Child.f k (wrap64 (t331 + 1))).bind fun bt332 => ((interlocutorlaw8_within.f a0 1099511627776).bind fun t336 => ((interlocutorlaw8_Child.f k (wrap64 (t336 + 6))).bind fun bt337 => ((some (([(⟨bt327.1, bt327.2⟩ : S27), (⟨bt332.1, bt332.2⟩ : S27), (⟨bt337.1, bt337.2⟩ : S27)] : List (S27)) : List (S27))).bind fun y341 => ((interlocutorlaw8_Ref.f a0).bind fun bt347 => ((act_Do.f k 0 (([t325] : List Int)) y322 bt347.1 bt347.2.1 bt347.2.2.1 bt347.2.2.2.1 bt347.2.2.2.2.1 bt347.2.2.2.2.2).bind fun bt353 => (if bt353.2.2 = true then (if 0 ≤ t325 then (if t325 < (y341.length : Int) then ((interlocutorref10_Cmp.f k bt353.1 bt353.2.1 ((rd_T27 y341 t325).f0) ((rd_T27 y341 t325).f1)).bind fun t360 => (interlocutorlaw8_ActPicks.j0 k a2 y322 t325 y341 (t360 != 0) bt353.1 bt353.2.1)) else (none)) else (none)) else (interlocutorlaw8_ActPicks.j0 k a2 y322 t325 y341 true bt353.1 bt353.2.1))))))))))))))) = some r := H
    have A9 := Aside0.mk A90
    clear A90
    replace H := Option.bind_eq_some_iff.mp H
    obtain ⟨t317, A100, H⟩ := H
    replace H : ((interlocutorlaw8_Child.f k (wrap64 (t317 + 6))).bind fun bt318 => ((some (([(⟨t308, t309⟩ : S27), (⟨t313, t314⟩ : S27), (⟨bt318.1, bt318.2⟩ : S27)] : List (S27)) : List (S27))).bind fun y322 => ((interlocutorlaw8_within.f a1 3).bind fun t325 => ((interlocutorlaw8_within.f a0 1099511627776).bind fun t326 => ((interlocutorlaw8_Child.f k t326).bind fun bt327 => ((interlocutorlaw8_within.f a0 1099511627776).bind fun t331 => ((interlocutorlaw8_Child.f k (wrap64 (t331 + 1))).bind fun bt332 => ((interlocutorlaw8_within.f a0 1099511627776).bind fun t336 => ((interlocutorlaw8_Child.f k (wrap64 (t336 + 6))).bind fun bt337 => ((some (([(⟨bt327.1, bt327.2⟩ : S27), (⟨bt332.1, bt332.2⟩ : S27), (⟨bt337.1, bt337.2⟩ : S27)] : List (S27)) : List (S27))).bind fun y341 => ((interlocutorlaw8_Ref.f a0).bind fun bt347 => ((act_Do.f k 0 (([t325] : List Int)) y322 bt347.1 bt347.2.1 bt347.2.2.1 bt347.2.2.2.1 bt347.2.2.2.2.1 bt347.2.2.2.2.2).bind fun bt353 => (if bt353.2.2 = true then (if 0 ≤ t325 then (if t325 < (y341.length : Int) then ((interlocutorref10_Cmp.f k bt353.1 bt353.2.1 ((rd_T27 y341 t325).f0) ((rd_T27 y341 t325).f1)).bind fun t360 => (interlocutorlaw8_ActPicks.j0 k a2 y322 t325 y341 (t360 != 0) bt353.1 bt353.2.1)) else (none)) else (none)) else (interlocutorlaw8_ActPicks.j0 k a2 y322 t325 y341 true bt353.1 bt353.2.1)))))))))))))) = some r := H
    have A10 := Aside0.mk A100
    clear A100
    replace H := Option.bind_eq_some_iff.mp H
    obtain ⟨⟨t318, t319⟩, A110, H⟩ := H
    replace H : ((some (([(⟨t308, t309⟩ : S27), (⟨t313, t314⟩ : S27), (⟨t318, t319⟩ : S27)] : List (S27)) : List (S27))).bind fun y322 => ((interlocutorlaw8_within.f a1 3).bind fun t325 => ((interlocutorlaw8_within.f a0 1099511627776).bind fun t326 => ((interlocutorlaw8_Child.f k t326).bind fun bt327 => ((interlocutorlaw8_within.f a0 1099511627776).bind fun t331 => ((interlocutorlaw8_Child.f k (wrap64 (t331 + 1))).bind fun bt332 => ((interlocutorlaw8_within.f a0 1099511627776).bind fun t336 => ((interlocutorlaw8_Child.f k (wrap64 (t336 + 6))).bind fun bt337 => ((some (([(⟨bt327.1, bt327.2⟩ : S27), (⟨bt332.1, bt332.2⟩ : S27), (⟨bt337.1, bt337.2⟩ : S27)] : List (S27)) : List (S27))).bind fun y341 => ((interlocutorlaw8_Ref.f a0).bind fun bt347 => ((act_Do.f k 0 (([t325] : List Int)) y322 bt347.1 bt347.2.1 bt347.2.2.1 bt347.2.2.2.1 bt347.2.2.2.2.1 bt347.2.2.2.2.2).bind fun bt353 => (if bt353.2.2 = true then (if 0 ≤ t325 then (if t325 < (y341.length : Int) then ((interlocutorref10_Cmp.f k bt353.1 bt353.2.1 ((rd_T27 y341 t325).f0) ((rd_T27 y341 t325).f1)).bind fun t360 => (interlocutorlaw8_ActPicks.j0 k a2 y322 t325 y341 (t360 != 0) bt353.1 bt353.2.1)) else (none)) else (none)) else (interlocutorlaw8_ActPicks.j0 k a2 y322 t325 y341 true bt353.1 bt353.2.1))))))))))))) = some r := H
    have A11 := Aside0.mk A110
    clear A110
    obtain ⟨y322, hy322⟩ : ∃ y_ : List (S27), y_ = (([(⟨t308, t309⟩ : S27), (⟨t313, t314⟩ : S27), (⟨t318, t319⟩ : S27)] : List (S27))) := ⟨_, rfl⟩
    replace H : ((interlocutorlaw8_within.f a1 3).bind fun t325 => ((interlocutorlaw8_within.f a0 1099511627776).bind fun t326 => ((interlocutorlaw8_Child.f k t326).bind fun bt327 => ((interlocutorlaw8_within.f a0 1099511627776).bind fun t331 => ((interlocutorlaw8_Child.f k (wrap64 (t331 + 1))).bind fun bt332 => ((interlocutorlaw8_within.f a0 1099511627776).bind fun t336 => ((interlocutorlaw8_Child.f k (wrap64 (t336 + 6))).bind fun bt337 => ((some (([(⟨bt327.1, bt327.2⟩ : S27), (⟨bt332.1, bt332.2⟩ : S27), (⟨bt337.1, bt337.2⟩ : S27)] : List (S27)) : List (S27))).bind fun y341 => ((interlocutorlaw8_Ref.f a0).bind fun bt347 => ((act_Do.f k 0 (([t325] : List Int)) y322 bt347.1 bt347.2.1 bt347.2.2.1 bt347.2.2.2.1 bt347.2.2.2.2.1 bt347.2.2.2.2.2).bind fun bt353 => (if bt353.2.2 = true then (if 0 ≤ t325 then (if t325 < (y341.length : Int) then ((interlocutorref10_Cmp.f k bt353.1 bt353.2.1 ((rd_T27 y341 t325).f0) ((rd_T27 y341 t325).f1)).bind fun t360 => (interlocutorlaw8_ActPicks.j0 k a2 y322 t325 y341 (t360 != 0) bt353.1 bt353.2.1)) else (none)) else (none)) else (interlocutorlaw8_ActPicks.j0 k a2 y322 t325 y341 true bt353.1 bt353.2.1)))))))))))) = some r := by first | (rw [hy322]; with_reducible exact H) | (have H2_ := (Option.bind_some _ _).symm.trans H; rw [hy322]; with_reducible exact H2_) | (have H2_ := (Option.bind_some _ _).symm.trans H; with_reducible exact H2_) | with_reducible exact H | (rw [hy322]; exact H) | exact H
    have Ny322 := Aside0.mk hy322
    clear hy322
    replace H := Option.bind_eq_some_iff.mp H
    obtain ⟨t325, A120, H⟩ := H
    replace H : ((interlocutorlaw8_within.f a0 1099511627776).bind fun t326 => ((interlocutorlaw8_Child.f k t326).bind fun bt327 => ((interlocutorlaw8_within.f a0 1099511627776).bind fun t331 => ((interlocutorlaw8_Child.f k (wrap64 (t331 + 1))).bind fun bt332 => ((interlocutorlaw8_within.f a0 1099511627776).bind fun t336 => ((interlocutorlaw8_Child.f k (wrap64 (t336 + 6))).bind fun bt337 => ((some (([(⟨bt327.1, bt327.2⟩ : S27), (⟨bt332.1, bt332.2⟩ : S27), (⟨bt337.1, bt337.2⟩ : S27)] : List (S27)) : List (S27))).bind fun y341 => ((interlocutorlaw8_Ref.f a0).bind fun bt347 => ((act_Do.f k 0 (([t325] : List Int)) y322 bt347.1 bt347.2.1 bt347.2.2.1 bt347.2.2.2.1 bt347.2.2.2.2.1 bt347.2.2.2.2.2).bind fun bt353 => (if bt353.2.2 = true then (if 0 ≤ t325 then (if t325 < (y341.length : Int) then ((interlocutorref10_Cmp.f k bt353.1 bt353.2.1 ((rd_T27 y341 t325).f0) ((rd_T27 y341 t325).f1)).bind fun t360 => (interlocutorlaw8_ActPicks.j0 k a2 y322 t325 y341 (t360 != 0) bt353.1 bt353.2.1)) else (none)) else (none)) else (interlocutorlaw8_ActPicks.j0 k a2 y322 t325 y341 true bt353.1 bt353.2.1))))))))))) = some r := H
    have A12 := Aside0.mk A120
    clear A120
    replace H := Option.bind_eq_some_iff.mp H
    obtain ⟨t326, A130, H⟩ := H
    replace H : ((interlocutorlaw8_Child.f k t326).bind fun bt327 => ((interlocutorlaw8_within.f a0 1099511627776).bind fun t331 => ((interlocutorlaw8_Child.f k (wrap64 (t331 + 1))).bind fun bt332 => ((interlocutorlaw8_within.f a0 1099511627776).bind fun t336 => ((interlocutorlaw8_Child.f k (wrap64 (t336 + 6))).bind fun bt337 => ((some (([(⟨bt327.1, bt327.2⟩ : S27), (⟨bt332.1, bt332.2⟩ : S27), (⟨bt337.1, bt337.2⟩ : S27)] : List (S27)) : List (S27))).bind fun y341 => ((interlocutorlaw8_Ref.f a0).bind fun bt347 => ((act_Do.f k 0 (([t325] : List Int)) y322 bt347.1 bt347.2.1 bt347.2.2.1 bt347.2.2.2.1 bt347.2.2.2.2.1 bt347.2.2.2.2.2).bind fun bt353 => (if bt353.2.2 = true then (if 0 ≤ t325 then (if t325 < (y341.length : Int) then ((interlocutorref10_Cmp.f k bt353.1 bt353.2.1 ((rd_T27 y341 t325).f0) ((rd_T27 y341 t325).f1)).bind fun t360 => (interlocutorlaw8_ActPicks.j0 k a2 y322 t325 y341 (t360 != 0) bt353.1 bt353.2.1)) else (none)) else (none)) else (interlocutorlaw8_ActPicks.j0 k a2 y322 t325 y341 true bt353.1 bt353.2.1)))))))))) = some r := H
    have A13 := Aside0.mk A130
    clear A130
    replace H := Option.bind_eq_some_iff.mp H
    obtain ⟨⟨t327, t328⟩, A140, H⟩ := H
    replace H : ((interlocutorlaw8_within.f a0 1099511627776).bind fun t331 => ((interlocutorlaw8_Child.f k (wrap64 (t331 + 1))).bind fun bt332 => ((interlocutorlaw8_within.f a0 1099511627776).bind fun t336 => ((interlocutorlaw8_Child.f k (wrap64 (t336 + 6))).bind fun bt337 => ((some (([(⟨t327, t328⟩ : S27), (⟨bt332.1, bt332.2⟩ : S27), (⟨bt337.1, bt337.2⟩ : S27)] : List (S27)) : List (S27))).bind fun y341 => ((interlocutorlaw8_Ref.f a0).bind fun bt347 => ((act_Do.f k 0 (([t325] : List Int)) y322 bt347.1 bt347.2.1 bt347.2.2.1 bt347.2.2.2.1 bt347.2.2.2.2.1 bt347.2.2.2.2.2).bind fun bt353 => (if bt353.2.2 = true then (if 0 ≤ t325 then (if t325 < (y341.length : Int) then ((interlocutorref10_Cmp.f k bt353.1 bt353.2.1 ((rd_T27 y341 t325).f0) ((rd_T27 y341 t325).f1)).bind fun t360 => (interlocutorlaw8_ActPicks.j0 k a2 y322 t325 y341 (t360 != 0) bt353.1 bt353.2.1)) else (none)) else (none)) else (interlocutorlaw8_ActPicks.j0 k a2 y322 t325 y341 true bt353.1 bt353.2.1))))))))) = some r := H
    have A14 := Aside0.mk A140
    clear A140
    replace H := Option.bind_eq_some_iff.mp H
    obtain ⟨t331, A150, H⟩ := H
    replace H : ((interlocutorlaw8_Child.f k (wrap64 (t331 + 1))).bind fun bt332 => ((interlocutorlaw8_within.f a0 1099511627776).bind fun t336 => ((interlocutorlaw8_Child.f k (wrap64 (t336 + 6))).bind fun bt337 => ((some (([(⟨t327, t328⟩ : S27), (⟨bt332.1, bt332.2⟩ : S27), (⟨bt337.1, bt337.2⟩ : S27)] : List (S27)) : List (S27))).bind fun y341 => ((interlocutorlaw8_Ref.f a0).bind fun bt347 => ((act_Do.f k 0 (([t325] : List Int)) y322 bt347.1 bt347.2.1 bt347.2.2.1 bt347.2.2.2.1 bt347.2.2.2.2.1 bt347.2.2.2.2.2).bind fun bt353 => (if bt353.2.2 = true then (if 0 ≤ t325 then (if t325 < (y341.length : Int) then ((interlocutorref10_Cmp.f k bt353.1 bt353.2.1 ((rd_T27 y341 t325).f0) ((rd_T27 y341 t325).f1)).bind fun t360 => (interlocutorlaw8_ActPicks.j0 k a2 y322 t325 y341 (t360 != 0) bt353.1 bt353.2.1)) else (none)) else (none)) else (interlocutorlaw8_ActPicks.j0 k a2 y322 t325 y341 true bt353.1 bt353.2.1)))))))) = some r := H
    have A15 := Aside0.mk A150
    clear A150
    replace H := Option.bind_eq_some_iff.mp H
    obtain ⟨⟨t332, t333⟩, A160, H⟩ := H
    replace H : ((interlocutorlaw8_within.f a0 1099511627776).bind fun t336 => ((interlocutorlaw8_Child.f k (wrap64 (t336 + 6))).bind fun bt337 => ((some (([(⟨t327, t328⟩ : S27), (⟨t332, t333⟩ : S27), (⟨bt337.1, bt337.2⟩ : S27)] : List (S27)) : List (S27))).bind fun y341 => ((interlocutorlaw8_Ref.f a0).bind fun bt347 => ((act_Do.f k 0 (([t325] : List Int)) y322 bt347.1 bt347.2.1 bt347.2.2.1 bt347.2.2.2.1 bt347.2.2.2.2.1 bt347.2.2.2.2.2).bind fun bt353 => (if bt353.2.2 = true then (if 0 ≤ t325 then (if t325 < (y341.length : Int) then ((interlocutorref10_Cmp.f k bt353.1 bt353.2.1 ((rd_T27 y341 t325).f0) ((rd_T27 y341 t325).f1)).bind fun t360 => (interlocutorlaw8_ActPicks.j0 k a2 y322 t325 y341 (t360 != 0) bt353.1 bt353.2.1)) else (none)) else (none)) else (interlocutorlaw8_ActPicks.j0 k a2 y322 t325 y341 true bt353.1 bt353.2.1))))))) = some r := H
    have A16 := Aside0.mk A160
    clear A160
    replace H := Option.bind_eq_some_iff.mp H
    obtain ⟨t336, A170, H⟩ := H
    replace H : ((interlocutorlaw8_Child.f k (wrap64 (t336 + 6))).bind fun bt337 => ((some (([(⟨t327, t328⟩ : S27), (⟨t332, t333⟩ : S27), (⟨bt337.1, bt337.2⟩ : S27)] : List (S27)) : List (S27))).bind fun y341 => ((interlocutorlaw8_Ref.f a0).bind fun bt347 => ((act_Do.f k 0 (([t325] : List Int)) y322 bt347.1 bt347.2.1 bt347.2.2.1 bt347.2.2.2.1 bt347.2.2.2.2.1 bt347.2.2.2.2.2).bind fun bt353 => (if bt353.2.2 = true then (if 0 ≤ t325 then (if t325 < (y341.length : Int) then ((interlocutorref10_Cmp.f k bt353.1 bt353.2.1 ((rd_T27 y341 t325).f0) ((rd_T27 y341 t325).f1)).bind fun t360 => (interlocutorlaw8_ActPicks.j0 k a2 y322 t325 y341 (t360 != 0) bt353.1 bt353.2.1)) else (none)) else (none)) else (interlocutorlaw8_ActPicks.j0 k a2 y322 t325 y341 true bt353.1 bt353.2.1)))))) = some r := H
    have A17 := Aside0.mk A170
    clear A170
    replace H := Option.bind_eq_some_iff.mp H
    obtain ⟨⟨t337, t338⟩, A180, H⟩ := H
    replace H : ((some (([(⟨t327, t328⟩ : S27), (⟨t332, t333⟩ : S27), (⟨t337, t338⟩ : S27)] : List (S27)) : List (S27))).bind fun y341 => ((interlocutorlaw8_Ref.f a0).bind fun bt347 => ((act_Do.f k 0 (([t325] : List Int)) y322 bt347.1 bt347.2.1 bt347.2.2.1 bt347.2.2.2.1 bt347.2.2.2.2.1 bt347.2.2.2.2.2).bind fun bt353 => (if bt353.2.2 = true then (if 0 ≤ t325 then (if t325 < (y341.length : Int) then ((interlocutorref10_Cmp.f k bt353.1 bt353.2.1 ((rd_T27 y341 t325).f0) ((rd_T27 y341 t325).f1)).bind fun t360 => (interlocutorlaw8_ActPicks.j0 k a2 y322 t325 y341 (t360 != 0) bt353.1 bt353.2.1)) else (none)) else (none)) else (interlocutorlaw8_ActPicks.j0 k a2 y322 t325 y341 true bt353.1 bt353.2.1))))) = some r := H
    have A18 := Aside0.mk A180
    clear A180
    obtain ⟨y341, hy341⟩ : ∃ y_ : List (S27), y_ = (([(⟨t327, t328⟩ : S27), (⟨t332, t333⟩ : S27), (⟨t337, t338⟩ : S27)] : List (S27))) := ⟨_, rfl⟩
    replace H : ((interlocutorlaw8_Ref.f a0).bind fun bt347 => ((act_Do.f k 0 (([t325] : List Int)) y322 bt347.1 bt347.2.1 bt347.2.2.1 bt347.2.2.2.1 bt347.2.2.2.2.1 bt347.2.2.2.2.2).bind fun bt353 => (if bt353.2.2 = true then (if 0 ≤ t325 then (if t325 < (y341.length : Int) then ((interlocutorref10_Cmp.f k bt353.1 bt353.2.1 ((rd_T27 y341 t325).f0) ((rd_T27 y341 t325).f1)).bind fun t360 => (interlocutorlaw8_ActPicks.j0 k a2 y322 t325 y341 (t360 != 0) bt353.1 bt353.2.1)) else (none)) else (none)) else (interlocutorlaw8_ActPicks.j0 k a2 y322 t325 y341 true bt353.1 bt353.2.1)))) = some r := by first | (rw [hy341]; with_reducible exact H) | (have H2_ := (Option.bind_some _ _).symm.trans H; rw [hy341]; with_reducible exact H2_) | (have H2_ := (Option.bind_some _ _).symm.trans H; with_reducible exact H2_) | with_reducible exact H | (rw [hy341]; exact H) | exact H
    have Ny341 := Aside0.mk hy341
    clear hy341
    obtain ⟨y344, hy344⟩ : ∃ y_ : List Int, y_ = (([t325] : List Int)) := ⟨_, rfl⟩
    replace H : ((interlocutorlaw8_Ref.f a0).bind fun bt347 => ((act_Do.f k 0 y344 y322 bt347.1 bt347.2.1 bt347.2.2.1 bt347.2.2.2.1 bt347.2.2.2.2.1 bt347.2.2.2.2.2).bind fun bt353 => (if bt353.2.2 = true then (if 0 ≤ t325 then (if t325 < (y341.length : Int) then ((interlocutorref10_Cmp.f k bt353.1 bt353.2.1 ((rd_T27 y341 t325).f0) ((rd_T27 y341 t325).f1)).bind fun t360 => (interlocutorlaw8_ActPicks.j0 k a2 y322 t325 y341 (t360 != 0) bt353.1 bt353.2.1)) else (none)) else (none)) else (interlocutorlaw8_ActPicks.j0 k a2 y322 t325 y341 true bt353.1 bt353.2.1)))) = some r := by first | (rw [hy344]; with_reducible exact H) | (have H2_ := (Option.bind_some _ _).symm.trans H; rw [hy344]; with_reducible exact H2_) | (have H2_ := (Option.bind_some _ _).symm.trans H; with_reducible exact H2_) | with_reducible exact H | (rw [hy344]; exact H) | exact H
    have Ny344 := Aside0.mk hy344
    clear hy344
    replace H := Option.bind_eq_some_iff.mp H
    obtain ⟨⟨t347, t348, t349, t350, t351, t352⟩, A190, H⟩ := H
    replace H : ((act_Do.f k 0 y344 y322 t347 t348 t349 t350 t351 t352).bind fun bt353 => (if bt353.2.2 = true then (if 0 ≤ t325 then (if t325 < (y341.length : Int) then ((interlocutorref10_Cmp.f k bt353.1 bt353.2.1 ((rd_T27 y341 t325).f0) ((rd_T27 y341 t325).f1)).bind fun t360 => (interlocutorlaw8_ActPicks.j0 k a2 y322 t325 y341 (t360 != 0) bt353.1 bt353.2.1)) else (none)) else (none)) else (interlocutorlaw8_ActPicks.j0 k a2 y322 t325 y341 true bt353.1 bt353.2.1))) = some r := H
    have A19 := Aside0.mk A190
    clear A190
    replace H := Option.bind_eq_some_iff.mp H
    obtain ⟨⟨t353, t354, t357⟩, A200, H⟩ := H
    replace H : (if t357 = true then (if 0 ≤ t325 then (if t325 < (y341.length : Int) then ((interlocutorref10_Cmp.f k t353 t354 ((rd_T27 y341 t325).f0) ((rd_T27 y341 t325).f1)).bind fun t360 => (interlocutorlaw8_ActPicks.j0 k a2 y322 t325 y341 (t360 != 0) t353 t354)) else (none)) else (none)) else (interlocutorlaw8_ActPicks.j0 k a2 y322 t325 y341 true t353 t354)) = some r := H
    have A20 := Aside0.mk A200
    clear A200
    have HC21 := Aside0.mk H
    clear H
    go_enter Try.func12, Try.ntmps12
    go_upto_region 7 with (first | ((with_reducible refine gate_callee (f := 17) rfl ?_); refine goesL_ (some 13) rfl rfl Try.func17 (by kernel_rfl) rfl #[] rfl (by (try simp only [List.map_toArray, List.map_cons, List.map_nil]); first | done | rfl | (simp only [List.length_drop, List.length_take]; rfl)) ?_; (with_reducible refine (interlocutorlaw8_known.calls  true _ A4.out).mono ?_); rintro e w22 ⟨rfl, hb⟩; refine ⟨_, rfl, ?_⟩; have n0_ := Aside0.mk (below_step (by repeat (first | (with_reducible first | exact HB.out | apply below_alloc | apply pw_below_drewN | apply below_drew1) | exact HB.out)) hb); clear HB; have HB := n0_; clear n0_; (try clear hb); (try clear hb2); (try clear hk); (try clear hi)) | ((with_reducible refine gate_callee (f := 18) rfl ?_); refine goesL_ (some 16) rfl rfl Try.func18 (by kernel_rfl) rfl #[.int .i64 a0, .int .i64 1099511627776] rfl (by (try simp only [List.map_toArray, List.map_cons, List.map_nil]); first | done | rfl | (simp only [List.length_drop, List.length_take]; rfl)) ?_; (with_reducible refine (interlocutorlaw8_within.calls a0 1099511627776 t307 _ A6.out).mono ?_); rintro e w' ⟨rfl, ⟨nd, rfl⟩⟩; refine ⟨_, rfl, ?_⟩; (try (rw [drewN_self w22]; generalize hq_ : World.drewN w22 _ = w22; have n0_ : Aside0 (Below w.heap.size w w22) := ⟨by rw [← hq_]; exact (by repeat (first | (with_reducible first | exact HB.out | apply below_alloc | apply pw_below_drewN | apply below_drew1) | exact HB.out))⟩; clear HB hq_; have HB := n0_; clear n0_))) | ((with_reducible refine gate_callee (f := 19) rfl ?_); refine goesL_ (some 17) rfl rfl Try.func19 (by kernel_rfl) rfl #[.int .i64 t307] rfl (by (try simp only [List.map_toArray, List.map_cons, List.map_nil]); first | done | rfl | (simp only [List.length_drop, List.length_take]; rfl)) ?_; (with_reducible refine (interlocutorlaw8_Child.calls k t307 t308 t309 _ A7.out).mono ?_); rintro e w23 ⟨v310, rfl, ho0, hb⟩; refine ⟨_, rfl, ?_⟩; have n0_ := Aside0.mk (Kd.R_lower ho0 (below_size (by repeat (first | (with_reducible first | exact HB.out | apply below_alloc | apply pw_below_drewN | apply below_drew1) | exact HB.out)))); have n1_ := Aside0.mk (below_step (by repeat (first | (with_reducible first | exact HB.out | apply below_alloc | apply pw_below_drewN | apply below_drew1) | exact HB.out)) hb); clear HB; have HO311 := n0_; have HB := n1_; clear n0_ n1_; (try clear hb); (try clear hb2); (try clear hk); (try clear hi); (try clear ho0)) | ((with_reducible refine gate_callee (f := 18) rfl ?_); refine goesL_ (some 19) rfl rfl Try.func18 (by kernel_rfl) rfl #[.int .i64 a0, .int .i64 1099511627776] rfl (by (try simp only [List.map_toArray, List.map_cons, List.map_nil]); first | done | rfl | (simp only [List.length_drop, List.length_take]; rfl)) ?_; (with_reducible refine (interlocutorlaw8_within.calls a0 1099511627776 t312 _ A8.out).mono ?_); rintro e w' ⟨rfl, ⟨nd, rfl⟩⟩; refine ⟨_, rfl, ?_⟩; (try (rw [drewN_self w23]; generalize hq_ : World.drewN w23 _ = w23; have n0_ : Aside0 (Kd.R (Kd.int .i64) 3 w23 w.heap.size (fun _ => True) v310 t309) := ⟨by rw [← hq_]; exact (by (with_reducible repeat (first | apply Kd.R_alloc | apply Kd.R_drewN | apply Kd.R_drew)); exact HO311.out)⟩; have n1_ : Aside0 (Below w.heap.size w w23) := ⟨by rw [← hq_]; exact (by repeat (first | (with_reducible first | exact HB.out | apply below_alloc | apply pw_below_drewN | apply below_drew1) | exact HB.out))⟩; clear HO311 HB hq_; have HO311 := n0_; have HB := n1_; clear n0_ n1_))) | ((with_reducible refine gate_callee (f := 19) rfl ?_); refine goesL_ (some 21) rfl rfl Try.func19 (by kernel_rfl) rfl #[.int .i64 (wrap64 (t312 + 1))] rfl (by (try simp only [List.map_toArray, List.map_cons, List.map_nil]); first | done | rfl | (simp only [List.length_drop, List.length_take]; rfl)) ?_; (with_reducible refine (interlocutorlaw8_Child.calls k (wrap64 (t312 + 1)) t313 t314 _ A9.out).mono ?_); rintro e w24 ⟨v315, rfl, ho0, hb⟩; refine ⟨_, rfl, ?_⟩; have n0_ := Aside0.mk (Kd.R_elder' (by (with_reducible repeat (first | apply Kd.R_alloc | apply Kd.R_drewN | apply Kd.R_drew)); exact HO311.out) (Kd.R_base ho0) hb); have n1_ := Aside0.mk (Kd.R_lower (Kd.R_new' ho0 (Kd.R_lt (by (with_reducible repeat (first | apply Kd.R_alloc | apply Kd.R_drewN | apply Kd.R_drew)); exact HO311.out))) (below_size (by repeat (first | (with_reducible first | exact HB.out | apply below_alloc | apply pw_below_drewN | apply below_drew1) | exact HB.out)))); have n2_ := Aside0.mk (below_step (by repeat (first | (with_reducible first | exact HB.out | apply below_alloc | apply pw_below_drewN | apply below_drew1) | exact HB.out)) hb); clear HO311; clear HB; have HO311 := n0_; have HO316 := n1_; have HB := n2_; clear n0_ n1_ n2_; (try clear hb); (try clear hb2); (try clear hk); (try clear hi); (try clear ho0)) | ((with_reducible refine gate_callee (f := 18) rfl ?_); refine goesL_ (some 23) rfl rfl Try.func18 (by kernel_rfl) rfl #[.int .i64 a0, .int .i64 1099511627776] rfl (by (try simp only [List.map_toArray, List.map_cons, List.map_nil]); first | done | rfl | (simp only [List.length_drop, List.length_take]; rfl)) ?_; (with_reducible refine (interlocutorlaw8_within.calls a0 1099511627776 t317 _ A10.out).mono ?_); rintro e w' ⟨rfl, ⟨nd, rfl⟩⟩; refine ⟨_, rfl, ?_⟩; (try (rw [drewN_self w24]; generalize hq_ : World.drewN w24 _ = w24; have n0_ : Aside0 (Kd.R (Kd.int .i64) 3 w24 w.heap.size (fun k_ => some k_ ≠ (v315 : Value).ownBlock) v310 t309) := ⟨by rw [← hq_]; exact (by (with_reducible repeat (first | apply Kd.R_alloc | apply Kd.R_drewN | apply Kd.R_drew)); exact Kd.R_mono HO311.out (fun _ hk => hk.2))⟩; have n1_ : Aside0 (Kd.R (Kd.int .i64) 3 w24 w.heap.size (fun k_ => some k_ ≠ (v310 : Value).ownBlock) v315 t314) := ⟨by rw [← hq_]; exact (by (with_reducible repeat (first | apply Kd.R_alloc | apply Kd.R_drewN | apply Kd.R_drew)); exact Kd.R_mono HO316.out (fun _ hk => hk.2))⟩; have n2_ : Aside0 (Below w.heap.size w w24) := ⟨by rw [← hq_]; exact (by repeat (first | (with_reducible first | exact HB.out | apply below_alloc | apply pw_below_drewN | apply below_drew1) | exact HB.out))⟩; clear HO311 HO316 HB hq_; have HO311 := n0_; have HO316 := n1_; have HB := n2_; clear n0_ n1_ n2_))) | ((with_reducible refine gate_callee (f := 19) rfl ?_); refine goesL_ (some 25) rfl rfl Try.func19 (by kernel_rfl) rfl #[.int .i64 (wrap64 (t317 + 6))] rfl (by (try simp only [List.map_toArray, List.map_cons, List.map_nil]); first | done | rfl | (simp only [List.length_drop, List.length_take]; rfl)) ?_; (with_reducible refine (interlocutorlaw8_Child.calls k (wrap64 (t317 + 6)) t318 t319 _ A11.out).mono ?_); rintro e w25 ⟨v320, rfl, ho0, hb⟩; refine ⟨_, rfl, ?_⟩; have n0_ := Aside0.mk (Kd.R_elder' (by (with_reducible repeat (first | apply Kd.R_alloc | apply Kd.R_drewN | apply Kd.R_drew)); exact HO311.out) (Kd.R_base ho0) hb); have n1_ := Aside0.mk (Kd.R_elder' (by (with_reducible repeat (first | apply Kd.R_alloc | apply Kd.R_drewN | apply Kd.R_drew)); exact HO316.out) (Kd.R_base ho0) hb); have n2_ := Aside0.mk (Kd.R_lower (Kd.R_new' (Kd.R_new' ho0 (Kd.R_lt (by (with_reducible repeat (first | apply Kd.R_alloc | apply Kd.R_drewN | apply Kd.R_drew)); exact HO311.out))) (Kd.R_lt (by (with_reducible repeat (first | apply Kd.R_alloc | apply Kd.R_drewN | apply Kd.R_drew)); exact HO316.out))) (below_size (by repeat (first | (with_reducible first | exact HB.out | apply below_alloc | apply pw_below_drewN | apply below_drew1) | exact HB.out)))); have n3_ := Aside0.mk (below_step (by repeat (first | (with_reducible first | exact HB.out | apply below_alloc | apply pw_below_drewN | apply below_drew1) | exact HB.out)) hb); clear HO311; clear HO316; clear HB; have HO311 := n0_; have HO316 := n1_; have HO321 := n2_; have HB := n3_; clear n0_ n1_ n2_ n3_; (try clear hb); (try clear hb2); (try clear hk); (try clear hi); (try clear ho0); obtain ⟨Ao26, co26, eo26⟩ := Kd.R_slice HO311.out; subst eo26; obtain ⟨Ao27, co27, eo27⟩ := Kd.R_slice HO316.out; subst eo27; obtain ⟨Ao28, co28, eo28⟩ := Kd.R_slice HO321.out; subst eo28) | ((with_reducible refine gate_dst (N := 26) rfl ?_); refine Kd.N_lit k27 _ 27 ?hg (N' := 26) ?hd (xs := ([(⟨t308, t309⟩ : S27), (⟨t313, t314⟩ : S27), (⟨t318, t319⟩ : S27)] : List (S27))) (inner := [.int .i64 t308, .slice Ao26 t309.length co26, .int .i64 t313, .slice Ao27 t314.length co27, .int .i64 t318, .slice Ao28 t319.length co28]) (ok := (fun _ => True)) (okp := (fun _ => True)) ?hr ?hp (fun _ hk => hk) ((show ∀ k_, w25.heap.size ≤ k_ → (fun _ => True) k_ from fun k_ hk => trivial) _ (Nat.le_refl _)) (Below.refl _ _) (Nat.le_refl _) (by simp) ?_; (case hd => rfl); (case hg => rfl); (case hr => first | (go_simp; done) | (go_simp; rfl)); (case hp => exact (Reps.c2 (show Kd.FK k27 _ _ (⟨t308, t309⟩ : S27) [.int .i64 t308, .slice Ao26 t309.length co26] from (k27_mkF _ _ (⟨t308, t309⟩ : S27) (Kd.R_reads' (Kd.R_mono (ok' := (fun _ => True)) (HO311.out) (fun k_ hk => trivial))).2.1 (Kd.R_F (Kd.R_mono (ok' := (fun _ => True)) (HO311.out) (fun k_ hk => trivial))))) (Reps.c2 (show Kd.FK k27 _ _ (⟨t313, t314⟩ : S27) [.int .i64 t313, .slice Ao27 t314.length co27] from (k27_mkF _ _ (⟨t313, t314⟩ : S27) (Kd.R_reads' (Kd.R_mono (ok' := (fun _ => True)) (HO316.out) (fun k_ hk => trivial))).2.1 (Kd.R_F (Kd.R_mono (ok' := (fun _ => True)) (HO316.out) (fun k_ hk => trivial))))) (Reps.c2 (show Kd.FK k27 _ _ (⟨t318, t319⟩ : S27) [.int .i64 t318, .slice Ao28 t319.length co28] from (k27_mkF _ _ (⟨t318, t319⟩ : S27) (Kd.R_reads' (Kd.R_mono (ok' := (fun _ => True)) (HO321.out) (fun k_ hk => trivial))).2.1 (Kd.R_F (Kd.R_mono (ok' := (fun _ => True)) (HO321.out) (fun k_ hk => trivial))))) (Reps.none _ _))))); intro v323 w29 ho30 hb hg_ hnew_; clear hg_ hnew_; (first | rw [← Ny322.out] at ho30 | (simp only [Int.reduceToNat] at ho30; rw [← Ny322.out] at ho30)); have n0_ := Aside0.mk (Kd.N_lower ho30 (below_size (by repeat (first | (with_reducible first | exact HB.out | apply below_alloc | apply pw_below_drewN | apply below_drew1) | exact HB.out)))); have n1_ := Aside0.mk (below_step (by repeat (first | (with_reducible first | exact HB.out | apply below_alloc | apply pw_below_drewN | apply below_drew1) | exact HB.out)) hb); clear HB; clear HO311; clear HO316; clear HO321; have HO324 := n0_; have HB := n1_; clear n0_ n1_; clear hb ho30) | ((with_reducible refine gate_callee (f := 18) rfl ?_); refine goesL_ (some 28) rfl rfl Try.func18 (by kernel_rfl) rfl #[.int .i64 a1, .int .i64 3] rfl (by (try simp only [List.map_toArray, List.map_cons, List.map_nil]); first | done | rfl | (simp only [List.length_drop, List.length_take]; rfl)) ?_; (with_reducible refine (interlocutorlaw8_within.calls a1 3 t325 _ A12.out).mono ?_); rintro e w' ⟨rfl, ⟨nd, rfl⟩⟩; refine ⟨_, rfl, ?_⟩; (try (rw [drewN_self w29]; generalize hq_ : World.drewN w29 _ = w29; have n0_ : Aside0 (Kd.N k27 27 w29 w.heap.size (fun _ => True) v323 y322) := ⟨by rw [← hq_]; exact (by (with_reducible repeat (first | apply Kd.N_alloc | apply Kd.N_drewN | apply Kd.N_drew)); exact HO324.out)⟩; have n1_ : Aside0 (Below w.heap.size w w29) := ⟨by rw [← hq_]; exact (by repeat (first | (with_reducible first | exact HB.out | apply below_alloc | apply pw_below_drewN | apply below_drew1) | exact HB.out))⟩; clear HO324 HB hq_; have HO324 := n0_; have HB := n1_; clear n0_ n1_))) | ((with_reducible refine gate_callee (f := 18) rfl ?_); refine goesL_ (some 30) rfl rfl Try.func18 (by kernel_rfl) rfl #[.int .i64 a0, .int .i64 1099511627776] rfl (by (try simp only [List.map_toArray, List.map_cons, List.map_nil]); first | done | rfl | (simp only [List.length_drop, List.length_take]; rfl)) ?_; (with_reducible refine (interlocutorlaw8_within.calls a0 1099511627776 t326 _ A13.out).mono ?_); rintro e w' ⟨rfl, ⟨nd, rfl⟩⟩; refine ⟨_, rfl, ?_⟩; (try (rw [drewN_self w29]; generalize hq_ : World.drewN w29 _ = w29; have n0_ : Aside0 (Kd.N k27 27 w29 w.heap.size (fun _ => True) v323 y322) := ⟨by rw [← hq_]; exact (by (with_reducible repeat (first | apply Kd.N_alloc | apply Kd.N_drewN | apply Kd.N_drew)); exact HO324.out)⟩; have n1_ : Aside0 (Below w.heap.size w w29) := ⟨by rw [← hq_]; exact (by repeat (first | (with_reducible first | exact HB.out | apply below_alloc | apply pw_below_drewN | apply below_drew1) | exact HB.out))⟩; clear HO324 HB hq_; have HO324 := n0_; have HB := n1_; clear n0_ n1_))) | ((with_reducible refine gate_callee (f := 19) rfl ?_); refine goesL_ (some 31) rfl rfl Try.func19 (by kernel_rfl) rfl #[.int .i64 t326] rfl (by (try simp only [List.map_toArray, List.map_cons, List.map_nil]); first | done | rfl | (simp only [List.length_drop, List.length_take]; rfl)) ?_; (with_reducible refine (interlocutorlaw8_Child.calls k t326 t327 t328 _ A14.out).mono ?_); rintro e w31 ⟨v329, rfl, ho0, hb⟩; refine ⟨_, rfl, ?_⟩; have n0_ := Aside0.mk (Kd.N_elder' (by (with_reducible repeat (first | apply Kd.N_alloc | apply Kd.N_drewN | apply Kd.N_drew)); exact HO324.out) (Kd.R_base ho0) hb); have n1_ := Aside0.mk (Kd.R_lower ho0 (below_size (by repeat (first | (with_reducible first | exact HB.out | apply below_alloc | apply pw_below_drewN | apply below_drew1) | exact HB.out)))); have n2_ := Aside0.mk (below_step (by repeat (first | (with_reducible first | exact HB.out | apply below_alloc | apply pw_below_drewN | apply below_drew1) | exact HB.out)) hb); clear HO324; clear HB; have HO324 := n0_; have HO330 := n1_; have HB := n2_; clear n0_ n1_ n2_; (try clear hb); (try clear hb2); (try clear hk); (try clear hi); (try clear ho0)) | ((with_reducible refine gate_callee (f := 18) rfl ?_); refine goesL_ (some 33) rfl rfl Try.func18 (by kernel_rfl) rfl #[.int .i64 a0, .int .i64 1099511627776] rfl (by (try simp only [List.map_toArray, List.map_cons, List.map_nil]); first | done | rfl | (simp only [List.length_drop, List.length_take]; rfl)) ?_; (with_reducible refine (interlocutorlaw8_within.calls a0 1099511627776 t331 _ A15.out).mono ?_); rintro e w' ⟨rfl, ⟨nd, rfl⟩⟩; refine ⟨_, rfl, ?_⟩; (try (rw [drewN_self w31]; generalize hq_ : World.drewN w31 _ = w31; have n0_ : Aside0 (Kd.N k27 27 w31 w.heap.size (fun k_ => some k_ ≠ (v329 : Value).ownBlock) v323 y322) := ⟨by rw [← hq_]; exact (by (with_reducible repeat (first | apply Kd.N_alloc | apply Kd.N_drewN | apply Kd.N_drew)); exact Kd.N_mono HO324.out (fun _ hk => hk.2))⟩; have n1_ : Aside0 (Kd.R (Kd.int .i64) 3 w31 w.heap.size (fun _ => True) v329 t328) := ⟨by rw [← hq_]; exact (by (with_reducible repeat (first | apply Kd.R_alloc | apply Kd.R_drewN | apply Kd.R_drew)); exact HO330.out)⟩; have n2_ : Aside0 (Below w.heap.size w w31) := ⟨by rw [← hq_]; exact (by repeat (first | (with_reducible first | exact HB.out | apply below_alloc | apply pw_below_drewN | apply below_drew1) | exact HB.out))⟩; clear HO324 HO330 HB hq_; have HO324 := n0_; have HO330 := n1_; have HB := n2_; clear n0_ n1_ n2_))) | ((with_reducible refine gate_callee (f := 19) rfl ?_); refine goesL_ (some 35) rfl rfl Try.func19 (by kernel_rfl) rfl #[.int .i64 (wrap64 (t331 + 1))] rfl (by (try simp only [List.map_toArray, List.map_cons, List.map_nil]); first | done | rfl | (simp only [List.length_drop, List.length_take]; rfl)) ?_; (with_reducible refine (interlocutorlaw8_Child.calls k (wrap64 (t331 + 1)) t332 t333 _ A16.out).mono ?_); rintro e w32 ⟨v334, rfl, ho0, hb⟩; refine ⟨_, rfl, ?_⟩; have n0_ := Aside0.mk (Kd.N_elder' (by (with_reducible repeat (first | apply Kd.N_alloc | apply Kd.N_drewN | apply Kd.N_drew)); exact HO324.out) (Kd.R_base ho0) hb); have n1_ := Aside0.mk (Kd.R_elder' (by (with_reducible repeat (first | apply Kd.R_alloc | apply Kd.R_drewN | apply Kd.R_drew)); exact HO330.out) (Kd.R_base ho0) hb); have n2_ := Aside0.mk (Kd.R_lower (Kd.R_new' ho0 (Kd.R_lt (by (with_reducible repeat (first | apply Kd.R_alloc | apply Kd.R_drewN | apply Kd.R_drew)); exact HO330.out))) (below_size (by repeat (first | (with_reducible first | exact HB.out | apply below_alloc | apply pw_below_drewN | apply below_drew1) | exact HB.out)))); have n3_ := Aside0.mk (below_step (by repeat (first | (with_reducible first | exact HB.out | apply below_alloc | apply pw_below_drewN | apply below_drew1) | exact HB.out)) hb); clear HO324; clear HO330; clear HB; have HO324 := n0_; have HO330 := n1_; have HO335 := n2_; have HB := n3_; clear n0_ n1_ n2_ n3_; (try clear hb); (try clear hb2); (try clear hk); (try clear hi); (try clear ho0)) | ((with_reducible refine gate_callee (f := 18) rfl ?_); refine goesL_ (some 37) rfl rfl Try.func18 (by kernel_rfl) rfl #[.int .i64 a0, .int .i64 1099511627776] rfl (by (try simp only [List.map_toArray, List.map_cons, List.map_nil]); first | done | rfl | (simp only [List.length_drop, List.length_take]; rfl)) ?_; (with_reducible refine (interlocutorlaw8_within.calls a0 1099511627776 t336 _ A17.out).mono ?_); rintro e w' ⟨rfl, ⟨nd, rfl⟩⟩; refine ⟨_, rfl, ?_⟩; (try (rw [drewN_self w32]; generalize hq_ : World.drewN w32 _ = w32; have n0_ : Aside0 (Kd.N k27 27 w32 w.heap.size (fun k_ => some k_ ≠ (v329 : Value).ownBlock ∧ some k_ ≠ (v334 : Value).ownBlock) v323 y322) := ⟨by rw [← hq_]; exact (by (with_reducible repeat (first | apply Kd.N_alloc | apply Kd.N_drewN | apply Kd.N_drew)); exact Kd.N_mono HO324.out (fun _ hk => ⟨hk.1.2, hk.2⟩))⟩; have n1_ : Aside0 (Kd.R (Kd.int .i64) 3 w32 w.heap.size (fun k_ => some k_ ≠ (v334 : Value).ownBlock) v329 t328) := ⟨by rw [← hq_]; exact (by (with_reducible repeat (first | apply Kd.R_alloc | apply Kd.R_drewN | apply Kd.R_drew)); exact Kd.R_mono HO330.out (fun _ hk => hk.2))⟩; have n2_ : Aside0 (Kd.R (Kd.int .i64) 3 w32 w.heap.size (fun k_ => some k_ ≠ (v329 : Value).ownBlock) v334 t333) := ⟨by rw [← hq_]; exact (by (with_reducible repeat (first | apply Kd.R_alloc | apply Kd.R_drewN | apply Kd.R_drew)); exact Kd.R_mono HO335.out (fun _ hk => hk.2))⟩; have n3_ : Aside0 (Below w.heap.size w w32) := ⟨by rw [← hq_]; exact (by repeat (first | (with_reducible first | exact HB.out | apply below_alloc | apply pw_below_drewN | apply below_drew1) | exact HB.out))⟩; clear HO324 HO330 HO335 HB hq_; have HO324 := n0_; have HO330 := n1_; have HO335 := n2_; have HB := n3_; clear n0_ n1_ n2_ n3_))) | ((with_reducible refine gate_callee (f := 19) rfl ?_); refine goesL_ (some 39) rfl rfl Try.func19 (by kernel_rfl) rfl #[.int .i64 (wrap64 (t336 + 6))] rfl (by (try simp only [List.map_toArray, List.map_cons, List.map_nil]); first | done | rfl | (simp only [List.length_drop, List.length_take]; rfl)) ?_; (with_reducible refine (interlocutorlaw8_Child.calls k (wrap64 (t336 + 6)) t337 t338 _ A18.out).mono ?_); rintro e w33 ⟨v339, rfl, ho0, hb⟩; refine ⟨_, rfl, ?_⟩; have n0_ := Aside0.mk (Kd.N_elder' (by (with_reducible repeat (first | apply Kd.N_alloc | apply Kd.N_drewN | apply Kd.N_drew)); exact HO324.out) (Kd.R_base ho0) hb); have n1_ := Aside0.mk (Kd.R_elder' (by (with_reducible repeat (first | apply Kd.R_alloc | apply Kd.R_drewN | apply Kd.R_drew)); exact HO330.out) (Kd.R_base ho0) hb); have n2_ := Aside0.mk (Kd.R_elder' (by (with_reducible repeat (first | apply Kd.R_alloc | apply Kd.R_drewN | apply Kd.R_drew)); exact HO335.out) (Kd.R_base ho0) hb); have n3_ := Aside0.mk (Kd.R_lower (Kd.R_new' (Kd.R_new' ho0 (Kd.R_lt (by (with_reducible repeat (first | apply Kd.R_alloc | apply Kd.R_drewN | apply Kd.R_drew)); exact HO330.out))) (Kd.R_lt (by (with_reducible repeat (first | apply Kd.R_alloc | apply Kd.R_drewN | apply Kd.R_drew)); exact HO335.out))) (below_size (by repeat (first | (with_reducible first | exact HB.out | apply below_alloc | apply pw_below_drewN | apply below_drew1) | exact HB.out)))); have n4_ := Aside0.mk (below_step (by repeat (first | (with_reducible first | exact HB.out | apply below_alloc | apply pw_below_drewN | apply below_drew1) | exact HB.out)) hb); clear HO324; clear HO330; clear HO335; clear HB; have HO324 := n0_; have HO330 := n1_; have HO335 := n2_; have HO340 := n3_; have HB := n4_; clear n0_ n1_ n2_ n3_ n4_; (try clear hb); (try clear hb2); (try clear hk); (try clear hi); (try clear ho0); obtain ⟨Ao34, co34, eo34⟩ := Kd.R_slice HO330.out; subst eo34; obtain ⟨Ao35, co35, eo35⟩ := Kd.R_slice HO335.out; subst eo35; obtain ⟨Ao36, co36, eo36⟩ := Kd.R_slice HO340.out; subst eo36) | ((with_reducible refine gate_dst (N := 40) rfl ?_); refine Kd.N_lit k27 _ 27 ?hg (N' := 40) ?hd (xs := ([(⟨t327, t328⟩ : S27), (⟨t332, t333⟩ : S27), (⟨t337, t338⟩ : S27)] : List (S27))) (inner := [.int .i64 t327, .slice Ao34 t328.length co34, .int .i64 t332, .slice Ao35 t333.length co35, .int .i64 t337, .slice Ao36 t338.length co36]) (ok := (fun k_ => some k_ ≠ (v323 : Value).ownBlock)) (okp := (fun k_ => some k_ ≠ (v323 : Value).ownBlock)) ?hr ?hp (fun _ hk => hk) ((show ∀ k_, w33.heap.size ≤ k_ → (fun k_ => some k_ ≠ (v323 : Value).ownBlock) k_ from fun k_ hk => Kd.fresh' (Kd.N_lt (by (with_reducible repeat (first | apply Kd.N_alloc | apply Kd.N_drewN | apply Kd.N_drew)); exact HO324.out)) k_ hk) _ (Nat.le_refl _)) (Below.refl _ _) (Nat.le_refl _) (by simp) ?_; (case hd => rfl); (case hg => rfl); (case hr => first | (go_simp; done) | (go_simp; rfl)); (case hp => exact (Reps.c2 (show Kd.FK k27 _ _ (⟨t327, t328⟩ : S27) [.int .i64 t327, .slice Ao34 t328.length co34] from (k27_mkF _ _ (⟨t327, t328⟩ : S27) (Kd.R_reads' (Kd.R_mono (ok' := (fun k_ => some k_ ≠ (v323 : Value).ownBlock)) (Kd.R_apart' (HO330.out) (Kd.N_typed HO324.out) (by decide)) (fun k_ hk => hk.2))).2.1 (Kd.R_F (Kd.R_mono (ok' := (fun k_ => some k_ ≠ (v323 : Value).ownBlock)) (Kd.R_apart' (HO330.out) (Kd.N_typed HO324.out) (by decide)) (fun k_ hk => hk.2))))) (Reps.c2 (show Kd.FK k27 _ _ (⟨t332, t333⟩ : S27) [.int .i64 t332, .slice Ao35 t333.length co35] from (k27_mkF _ _ (⟨t332, t333⟩ : S27) (Kd.R_reads' (Kd.R_mono (ok' := (fun k_ => some k_ ≠ (v323 : Value).ownBlock)) (Kd.R_apart' (HO335.out) (Kd.N_typed HO324.out) (by decide)) (fun k_ hk => hk.2))).2.1 (Kd.R_F (Kd.R_mono (ok' := (fun k_ => some k_ ≠ (v323 : Value).ownBlock)) (Kd.R_apart' (HO335.out) (Kd.N_typed HO324.out) (by decide)) (fun k_ hk => hk.2))))) (Reps.c2 (show Kd.FK k27 _ _ (⟨t337, t338⟩ : S27) [.int .i64 t337, .slice Ao36 t338.length co36] from (k27_mkF _ _ (⟨t337, t338⟩ : S27) (Kd.R_reads' (Kd.R_mono (ok' := (fun k_ => some k_ ≠ (v323 : Value).ownBlock)) (Kd.R_apart' (HO340.out) (Kd.N_typed HO324.out) (by decide)) (fun k_ hk => hk.2))).2.1 (Kd.R_F (Kd.R_mono (ok' := (fun k_ => some k_ ≠ (v323 : Value).ownBlock)) (Kd.R_apart' (HO340.out) (Kd.N_typed HO324.out) (by decide)) (fun k_ hk => hk.2))))) (Reps.none _ _))))); intro v342 w37 ho38 hb hg_ hnew_; clear hg_ hnew_; (first | rw [← Ny341.out] at ho38 | (simp only [Int.reduceToNat] at ho38; rw [← Ny341.out] at ho38)); have n0_ := Aside0.mk (Kd.N_elder' (by (with_reducible repeat (first | apply Kd.N_alloc | apply Kd.N_drewN | apply Kd.N_drew)); exact HO324.out) (Kd.N_base ho38) hb); have n1_ := Aside0.mk (Kd.N_lower ho38 (below_size (by repeat (first | (with_reducible first | exact HB.out | apply below_alloc | apply pw_below_drewN | apply below_drew1) | exact HB.out)))); have n2_ := Aside0.mk (below_step (by repeat (first | (with_reducible first | exact HB.out | apply below_alloc | apply pw_below_drewN | apply below_drew1) | exact HB.out)) hb); clear HO324; clear HB; clear HO330; clear HO335; clear HO340; have HO324 := n0_; have HO343 := n1_; have HB := n2_; clear n0_ n1_ n2_; clear hb ho38) | ((with_reducible refine gate_dst (N := 43) rfl ?_); refine Kd.R_lit (Kd.int .i64) _ 3 ?hg (N := 43) ?hd (xs := ([t325] : List Int)) (inner := [.int .i64 t325]) (ok := fun _ => True) (okp := fun _ => True) ?hr ?hp (fun _ hk => hk) trivial (Below.refl _ _) (Nat.le_refl _) (by simp) ?_; (case hd => rfl); (case hg => rfl); (case hr => first | (go_simp; done) | (go_simp; rfl)); (case hp => exact (Reps.one (show Kd.M (Kd.int .i64) _ _ _ t325 [.int .i64 t325] from rfl) (Reps.none _ _))); intro v345 w39 ho40 hb hg_ hnew_; clear hg_ hnew_; (first | rw [← Ny344.out] at ho40 | (simp only [Int.reduceToNat] at ho40; rw [← Ny344.out] at ho40)); have n0_ := Aside0.mk (Kd.N_elder' (by (with_reducible repeat (first | apply Kd.N_alloc | apply Kd.N_drewN | apply Kd.N_drew)); exact HO324.out) (Kd.R_base ho40) hb); have n1_ := Aside0.mk (Kd.N_elder' (by (with_reducible repeat (first | apply Kd.N_alloc | apply Kd.N_drewN | apply Kd.N_drew)); exact HO343.out) (Kd.R_base ho40) hb); have n2_ := Aside0.mk (Kd.R_lower ho40 (below_size (by repeat (first | (with_reducible first | exact HB.out | apply below_alloc | apply pw_below_drewN | apply below_drew1) | exact HB.out)))); have n3_ := Aside0.mk (below_step (by repeat (first | (with_reducible first | exact HB.out | apply below_alloc | apply pw_below_drewN | apply below_drew1) | exact HB.out)) hb); clear HO324; clear HO343; clear HB; have HO324 := n0_; have HO343 := n1_; have HO346 := n2_; have HB := n3_; clear n0_ n1_ n2_ n3_; clear hb ho40; obtain ⟨Ao41, co41, eo41⟩ := Kd.R_slice HO346.out; subst eo41) | ((with_reducible refine gate_callee (f := 21) rfl ?_); refine goesL_ (some 47) rfl rfl Try.func21 (by kernel_rfl) rfl #[.int .i64 a0] rfl (by (try simp only [List.map_toArray, List.map_cons, List.map_nil]); first | done | rfl | (simp only [List.length_drop, List.length_take]; rfl)) ?_; (with_reducible refine (interlocutorlaw8_Ref.calls a0 t347 t348 t349 t350 t351 t352 _ A19.out).mono ?_); rintro e w42 ⟨rfl, hb⟩; refine ⟨_, rfl, ?_⟩; have n0_ := Aside0.mk (Kd.N_below (by (with_reducible repeat (first | apply Kd.N_alloc | apply Kd.N_drewN | apply Kd.N_drew)); exact HO324.out) hb); have n1_ := Aside0.mk (Kd.N_below (by (with_reducible repeat (first | apply Kd.N_alloc | apply Kd.N_drewN | apply Kd.N_drew)); exact HO343.out) hb); have n2_ := Aside0.mk (Kd.R_below (by (with_reducible repeat (first | apply Kd.R_alloc | apply Kd.R_drewN | apply Kd.R_drew)); exact HO346.out) hb); have n3_ := Aside0.mk (below_step (by repeat (first | (with_reducible first | exact HB.out | apply below_alloc | apply pw_below_drewN | apply below_drew1) | exact HB.out)) hb); clear HO324; clear HO343; clear HO346; clear HB; have HO324 := n0_; have HO343 := n1_; have HO346 := n2_; have HB := n3_; clear n0_ n1_ n2_ n3_; (try clear hb); (try clear hb2); (try clear hk); (try clear hi); obtain ⟨Ao43, co43, eo43⟩ := Kd.N_slice HO324.out; subst eo43) | ((with_reducible refine gate_callee (f := 22) rfl ?_); refine goesL_ (some 48) rfl rfl Try.func22 (by kernel_rfl) rfl #[.agg #[.int .i64 0, .slice Ao41 y344.length co41], .slice Ao43 y322.length co43, .agg #[.int .i64 t347, .int .i64 t348, .int .i64 t349, .int .i64 t350, .int .i64 t351, .int .i64 t352]] rfl (by (try simp only [List.map_toArray, List.map_cons, List.map_nil]); first | done | rfl | (simp only [List.length_drop, List.length_take]; rfl)) ?_; (with_reducible refine (act_Do.calls k 0 _ _ y344 _ _ y322 t347 t348 t349 t350 t351 t352 t353 t354 t357 _ ?side1 ?side2 ?side3 ?side4 A20.out).mono ?_); (case side1 => repeat (first | exact (Kd.R_reads' HO346.out).2.2 | (with_reducible refine Kd.C_alloc ?_ _) | (with_reducible refine Kd.C_drewN ?_ _) | (with_reducible refine Kd.C_drew ?_))); (case side2 => exact (Kd.R_reads' HO346.out).2.1); (case side3 => repeat (first | exact (Kd.N_reads' HO324.out).2.2 | (with_reducible refine Kd.C_alloc ?_ _) | (with_reducible refine Kd.C_drewN ?_ _) | (with_reducible refine Kd.C_drew ?_))); (case side4 => exact (Kd.N_reads' HO324.out).2.1); rintro e w44 ⟨v355, rfl, ho0, hb⟩; refine ⟨_, rfl, ?_⟩; have n0_ := Aside0.mk (Kd.N_elder' (by (with_reducible repeat (first | apply Kd.N_alloc | apply Kd.N_drewN | apply Kd.N_drew)); exact HO324.out) (Kd.R_base ho0) hb); have n1_ := Aside0.mk (Kd.N_elder' (by (with_reducible repeat (first | apply Kd.N_alloc | apply Kd.N_drewN | apply Kd.N_drew)); exact HO343.out) (Kd.R_base ho0) hb); have n2_ := Aside0.mk (Kd.R_elder' (by (with_reducible repeat (first | apply Kd.R_alloc | apply Kd.R_drewN | apply Kd.R_drew)); exact HO346.out) (Kd.R_base ho0) hb); have n3_ := Aside0.mk (Kd.R_lower (Kd.R_new' ho0 (Kd.R_lt (by (with_reducible repeat (first | apply Kd.R_alloc | apply Kd.R_drewN | apply Kd.R_drew)); exact HO346.out))) (below_size (by repeat (first | (with_reducible first | exact HB.out | apply below_alloc | apply pw_below_drewN | apply below_drew1) | exact HB.out)))); have n4_ := Aside0.mk (below_step (by repeat (first | (with_reducible first | exact HB.out | apply below_alloc | apply pw_below_drewN | apply below_drew1) | exact HB.out)) hb); clear HO324; clear HO343; clear HO346; clear HB; have HO324 := n0_; have HO343 := n1_; have HO346 := n2_; have HO356 := n3_; have HB := n4_; clear n0_ n1_ n2_ n3_ n4_; (try clear hb); (try clear hb2); (try clear hk); (try clear hi); (try clear ho0)) | ((with_reducible refine gate_dst (N := 10) rfl ?_); refine box_event ?hg (N := 10) ?hd (cs := #[.int .i64 0, .slice none 0 0]) (t := 27) ?hr ?_; (case hd => rfl); (case hg => rfl); (case hr => first | (go_simp; done) | (go_simp; rfl)); intro gb358 hg w45 hbox hb; have n0_ := Aside0.mk (Kd.N_below (Kd.N_elderB (by (with_reducible repeat (first | apply Kd.N_alloc | apply Kd.N_drewN | apply Kd.N_drew)); exact HO324.out) gb358 (Nat.le_of_eq hg.symm)) hb); have n1_ := Aside0.mk (Kd.N_below (Kd.N_elderB (by (with_reducible repeat (first | apply Kd.N_alloc | apply Kd.N_drewN | apply Kd.N_drew)); exact HO343.out) gb358 (Nat.le_of_eq hg.symm)) hb); have n2_ := Aside0.mk (Kd.R_below (by (with_reducible repeat (first | apply Kd.R_alloc | apply Kd.R_drewN | apply Kd.R_drew)); exact HO346.out) hb); have n3_ := Aside0.mk (Kd.R_below (by (with_reducible repeat (first | apply Kd.R_alloc | apply Kd.R_drewN | apply Kd.R_drew)); exact HO356.out) hb); have n4_ := Aside0.mk (below_step (by repeat (first | (with_reducible first | exact HB.out | apply below_alloc | apply pw_below_drewN | apply below_drew1) | exact HB.out)) hb); have n5_ := Aside0.mk (hbox); have n6_ := Aside0.mk ((by rw [hg]; exact (below_size (by repeat (first | (with_reducible first | exact HB.out | apply below_alloc | apply pw_below_drewN | apply below_drew1) | exact HB.out))) : w.heap.size ≤ gb358)); have n7_ := Aside0.mk ((by rw [hg]; exact (below_size (by repeat (first | (with_reducible first | exact HB.out | apply below_alloc | apply pw_below_drewN | apply below_drew1) | exact HB.out))) : w.heap.size ≤ gb358)); clear HO324; clear HO343; clear HO346; clear HO356; clear HB; have HO324 := n0_; have HO343 := n1_; have HO346 := n2_; have HO356 := n3_; have HB := n4_; have BK358 := n5_; have GW358 := n6_; have GE358 := n7_; clear n0_ n1_ n2_ n3_ n4_ n5_ n6_ n7_; clear hb hbox hg; have hcz46_0 : w45.cell? ⟨gb358, 0, none⟩ = some (.int .i64 0) := (blk_cell BK358.out 0).trans rfl; have hcz46_1 : w45.cell? ⟨gb358, 1, none⟩ = some (.slice none 0 0) := (blk_cell BK358.out 1).trans rfl; have hfz46_0 := blk_frozen BK358.out 0; have hfz46_1 := blk_frozen BK358.out 1; obtain ⟨Ao47, co47, eo47⟩ := Kd.R_slice HO356.out; subst eo47))
    (try simp only [Act.put, List.setIfInBounds_toArray, List.set_cons_zero, List.set_cons_succ])
    go_cut [61] (fun v61 wc => ∃ (kq : Nat) (x61_20 : Bool), v61 = .bool x61_20 ∧ Aside0 (interlocutorlaw8_ActPicks.j0 kq a2 y322 t325 y341 x61_20 t353 t354 = some r) ∧ Aside0 (kq ≤ k) ∧ Aside0 (Kd.N k27 27 wc w.heap.size (fun k_ => some k_ ≠ (v342 : Value).ownBlock ∧ some k_ ≠ ((.slice Ao47 t354.length co47) : Value).ownBlock ∧ k_ ≠ gb358) (.slice Ao43 y322.length co43) y322) ∧ Aside0 (Kd.N k27 27 wc w.heap.size (fun k_ => some k_ ≠ ((.slice Ao43 y322.length co43) : Value).ownBlock ∧ some k_ ≠ ((.slice Ao47 t354.length co47) : Value).ownBlock ∧ k_ ≠ gb358) v342 y341) ∧ Aside0 (Kd.R (Kd.int .i64) 3 wc w.heap.size (fun _ => True) (.slice Ao47 t354.length co47) t354) ∧ Aside0 (wc.heap[gb358]? = some (.cells #[.int .i64 t353, (.slice Ao47 t354.length co47)] 27 (0, 0))) ∧ Aside0 (Below w.heap.size w wc))
    case first =>
      have H := HC21.out
      clear HC21
      by_cases c48 : t357 = true
      · subst c48
        have H1 : (if 0 ≤ t325 then (if t325 < (y341.length : Int) then ((interlocutorref10_Cmp.f k t353 t354 ((rd_T27 y341 t325).f0) ((rd_T27 y341 t325).f1)).bind fun t360 => (interlocutorlaw8_ActPicks.j0 k a2 y322 t325 y341 (t360 != 0) t353 t354)) else (none)) else (none)) = some r := by rw [if_pos rfl] at H; exact H
        clear H
        have H := H1
        clear H1
        by_cases c49 : 0 ≤ t325
        · rw [if_pos c49] at H
          have c49b0 : decide (0 ≤ t325) = true := decide_eq_true c49
          clear c49
          (first | rw [c49b0] | (simp only [i64_w, i32_w]; rw [c49b0]) | skip)
          by_cases c50 : t325 < (y341.length : Int)
          · rw [if_pos c50] at H
            have c50b0 : decide (t325 < (y341.length : Int)) = true := decide_eq_true c50
            clear c50
            replace H := Option.bind_eq_some_iff.mp H
            obtain ⟨t360, A510, H⟩ := H
            replace H : (interlocutorlaw8_ActPicks.j0 k a2 y322 t325 y341 (t360 != 0) t353 t354) = some r := H
            have A51 := Aside0.mk A510
            clear A510
            have H' := Aside0.mk H
            clear H
            try go_wp2
            have n0_ : Aside0 (Kd.N k27 27 ((w45.setCell ⟨gb358, 0, none⟩ (.int .i64 t353)).setCell ⟨gb358, 1, none⟩ (.slice Ao47 t354.length co47)) w.heap.size (fun k_ => some k_ ≠ (v342 : Value).ownBlock ∧ some k_ ≠ (.slice Ao41 y344.length co41 : Value).ownBlock ∧ some k_ ≠ (.slice Ao47 t354.length co47 : Value).ownBlock ∧ k_ ≠ gb358) (.slice Ao43 y322.length co43) y322) := ⟨by (with_reducible repeat (first | apply Kd.N_alloc | apply Kd.N_drewN | apply Kd.N_drew)); exact Kd.N_mono (Kd.N_far (p := ⟨gb358, 1, none⟩) (Kd.N_far (p := ⟨gb358, 0, none⟩) (Kd.N_mono HO324.out (fun k_ hk => (⟨hk, hk.2⟩ : _ ∧ k_ ≠ gb358))) (fun _ hk => hk.2) (.int .i64 t353)) (fun _ hk => hk.2) (.slice Ao47 t354.length co47)) (fun _ hk => ⟨hk.1.1.1.1.2, ⟨hk.1.1.1.2, ⟨hk.1.1.2, hk.1.2⟩⟩⟩)⟩
            have n1_ : Aside0 (Kd.N k27 27 ((w45.setCell ⟨gb358, 0, none⟩ (.int .i64 t353)).setCell ⟨gb358, 1, none⟩ (.slice Ao47 t354.length co47)) w.heap.size (fun k_ => some k_ ≠ (.slice Ao43 y322.length co43 : Value).ownBlock ∧ some k_ ≠ (.slice Ao41 y344.length co41 : Value).ownBlock ∧ some k_ ≠ (.slice Ao47 t354.length co47 : Value).ownBlock ∧ k_ ≠ gb358) v342 y341) := ⟨by (with_reducible repeat (first | apply Kd.N_alloc | apply Kd.N_drewN | apply Kd.N_drew)); exact Kd.N_mono (Kd.N_far (p := ⟨gb358, 1, none⟩) (Kd.N_far (p := ⟨gb358, 0, none⟩) (Kd.N_mono HO343.out (fun k_ hk => (⟨hk, hk.2⟩ : _ ∧ k_ ≠ gb358))) (fun _ hk => hk.2) (.int .i64 t353)) (fun _ hk => hk.2) (.slice Ao47 t354.length co47)) (fun _ hk => ⟨hk.1.1.1.1, ⟨hk.1.1.1.2, ⟨hk.1.1.2, hk.1.2⟩⟩⟩)⟩
            have n2_ : Aside0 (Kd.R (Kd.int .i64) 3 ((w45.setCell ⟨gb358, 0, none⟩ (.int .i64 t353)).setCell ⟨gb358, 1, none⟩ (.slice Ao47 t354.length co47)) w.heap.size (fun k_ => some k_ ≠ (.slice Ao47 t354.length co47 : Value).ownBlock) (.slice Ao41 y344.length co41) y344) := ⟨by (with_reducible repeat (first | apply Kd.R_alloc | apply Kd.R_drewN | apply Kd.R_drew)); exact Kd.R_mono (Kd.R_far (p := ⟨gb358, 1, none⟩) (Kd.R_far (p := ⟨gb358, 0, none⟩) (Kd.R_types HO346.out BK358.out (by decide)) (fun _ hk => hk.2) (.int .i64 t353)) (fun _ hk => hk.2) (.slice Ao47 t354.length co47)) (fun _ hk => hk.1.2)⟩
            have n3_ : Aside0 (Kd.R (Kd.int .i64) 3 ((w45.setCell ⟨gb358, 0, none⟩ (.int .i64 t353)).setCell ⟨gb358, 1, none⟩ (.slice Ao47 t354.length co47)) w.heap.size (fun k_ => some k_ ≠ (.slice Ao41 y344.length co41 : Value).ownBlock) (.slice Ao47 t354.length co47) t354) := ⟨by (with_reducible repeat (first | apply Kd.R_alloc | apply Kd.R_drewN | apply Kd.R_drew)); exact Kd.R_mono (Kd.R_far (p := ⟨gb358, 1, none⟩) (Kd.R_far (p := ⟨gb358, 0, none⟩) (Kd.R_types HO356.out BK358.out (by decide)) (fun _ hk => hk.2) (.int .i64 t353)) (fun _ hk => hk.2) (.slice Ao47 t354.length co47)) (fun _ hk => hk.1.2)⟩
            have n4_ : Aside0 (((w45.setCell ⟨gb358, 0, none⟩ (.int .i64 t353)).setCell ⟨gb358, 1, none⟩ (.slice Ao47 t354.length co47)).heap[gb358]? = some (.cells #[.int .i64 t353, .slice Ao47 t354.length co47] 27 (0, 0))) := ⟨by (with_reducible repeat (first | refine blk_drewN ?_ _ | refine blk_drew ?_ | refine blk_alloc ?_ _)); refine blk_put (cs := #[.int .i64 t353, .slice none 0 0]) ?_ 1 _ rfl; (with_reducible repeat (first | refine blk_drewN ?_ _ | refine blk_drew ?_ | refine blk_alloc ?_ _)); refine blk_put (cs := #[.int .i64 0, .slice none 0 0]) ?_ 0 _ rfl; (with_reducible repeat (first | refine blk_drewN ?_ _ | refine blk_drew ?_ | refine blk_alloc ?_ _)); exact BK358.out⟩
            have n5_ : Aside0 (Below w.heap.size w ((w45.setCell ⟨gb358, 0, none⟩ (.int .i64 t353)).setCell ⟨gb358, 1, none⟩ (.slice Ao47 t354.length co47))) := ⟨by repeat (first | (with_reducible first | exact HB.out | apply below_alloc | apply pw_below_drewN | apply below_drew1 | refine below_set ?_ GE358.out) | exact HB.out)⟩
            (try clear HO324)
            (try clear HO343)
            (try clear HO346)
            (try clear HO356)
            (try clear BK358)
            (try clear HB)
            generalize ((w45.setCell ⟨gb358, 0, none⟩ (.int .i64 t353)).setCell ⟨gb358, 1, none⟩ (.slice Ao47 t354.length co47)) = w52 at n0_ n1_ n2_ n3_ n4_ n5_ ⊢
            have HO324 := n0_
            have HO343 := n1_
            have HO346 := n2_
            have HO356 := n3_
            have BK358 := n4_
            have HB := n5_
            clear n0_ n1_ n2_ n3_ n4_ n5_
            have n0_ := Aside0.mk (Kd.N_drew HO324.out)
            have n1_ := Aside0.mk (Kd.N_drew HO343.out)
            have n2_ := Aside0.mk (Kd.R_drew HO346.out)
            have n3_ := Aside0.mk (Kd.R_drew HO356.out)
            have n4_ := Aside0.mk (blk_drew BK358.out)
            have n5_ := Aside0.mk (below_drew1 HB.out)
            clear HO324
            clear HO343
            clear HO346
            clear HO356
            clear BK358
            clear HB
            have HO324 := n0_
            have HO343 := n1_
            have HO346 := n2_
            have HO356 := n3_
            have BK358 := n4_
            have HB := n5_
            clear n0_ n1_ n2_ n3_ n4_ n5_
            obtain ⟨Ao54, co54, eo54⟩ := Kd.N_slice HO343.out
            (first | subst eo54 | (injection eo54 with f1_ f2_ f3_; have f4_ := f1_.symm; have f5_ := f3_.symm; clear f1_ f2_ f3_; subst f4_; subst f5_))
            have p359 : 0 ≤ (t325 : Int) := of_decide_eq_true (by first | (with_reducible assumption) | assumption)
            have q359 : t325 < (y341.length : Int) := of_decide_eq_true (by first | (with_reducible assumption) | assumption)
            obtain ⟨ad359, A359_1, c359_1, e359, hx359_0, hx359_1, hl359_1, hi359_1⟩ := at_T27 (Kd.N_reads' HO343.out).2.2 t325 p359 q359
            cases e359
            obtain ⟨ce359, hce359, hMe359, hcc359⟩ := Kd.N_get HO343.out z27 t325 p359 (by first | exact q359 | exact of_decide_eq_true (by first | (with_reducible assumption) | assumption) | (have e_ := (Kd.N_reads' HO343.out).1; omega))
            obtain ⟨ua359_1, uc359_1, rfl, ul359_1, ge359_1⟩ := k27_openF hMe359
            have hv359_1 := hcc359 1 _ rfl
            rw [add_field _ _ 1 (by omega)] at hv359_1
            replace hv359_1 := Option.some.inj (hv359_1.symm.trans hx359_1)
            injection hv359_1 with hva_ hvn_ hvc_
            rw [hva_] at ge359_1
            rw [hvc_] at ul359_1
            have HL359_1 := Aside0.mk (show Kd.V (Kd.int .i64) 3 _ w.heap.size _ _ ((rd_T27 y341 t325).f1) from Kd.V_mk ul359_1 ge359_1)
            clear hva_ hvn_ hvc_ ge359_1 ul359_1
            clear hcc359 hce359
            have HR359_1 := Aside0.mk hi359_1
            have HC359_1 := Aside0.mk hl359_1
            clear hi359_1 hl359_1
            replace p359 := eq_true p359
            replace q359 := eq_true q359
            refine start_ (n := 11) (S := fun w' => w'.cell? ⟨gb358, 0, none⟩ = some (.int .i64 t353) ∧ w'.cell? ⟨gb358, 1, none⟩ = some (.slice Ao47 t354.length co47) ∧ w'.cell? (ad359.add ((t325).toNat * 2)) = some (.int .i64 ((rd_T27 y341 t325).f0)) ∧ w'.cell? ⟨(ad359.add ((t325).toNat * 2)).block, (ad359.add ((t325).toNat * 2)).off + 1, none⟩ = some (.slice A359_1 ((rd_T27 y341 t325).f1).length c359_1)) (ds := []) #[false, false, false, false, false, false, false, false, false, false, false] (by kernel_rfl) rfl rfl ⟨(blk_cell BK358.out 0).trans rfl, (blk_cell BK358.out 1).trans rfl, hx359_0, hx359_1⟩ (fun hHeld => ?_); refine with_tabW interlocutorlaw8_ActPicks.tab7 interlocutorlaw8_ActPicks.bits7 (fun HT_ HW_ => ?_)
            generalize w52.drew = w53 at HO324 HO343 HO346 HO356 BK358 HB HL359_1 HR359_1 hx359_0 hx359_1 hHeld ⊢
            refine pure_ (i := 0) (N := some 51) (v := ?_) (a' := ?_) #[true, false, false, false, false, false, false, false, false, false, false] rfl rfl (any_of HT_.out (by kernel_rfl)) (fun _ _ _ h => h) (Or.inl ⟨by rfl, ?_⟩) ?_ ?_
            rotate_left
            · intro w'
              go_simp
              with_reducible rfl
            rotate_left
            · simp only [Act.put, List.setIfInBounds_toArray, List.set_cons_zero, List.set_cons_succ, i64_w, i32_w]
              rfl
            refine pure_ (i := 1) (N := some 52) (v := ?_) (a' := ?_) #[true, true, false, false, false, false, false, false, false, false, false] rfl rfl (any_of HT_.out (by kernel_rfl)) (fun _ _ _ h => h) (Or.inl ⟨by rfl, ?_⟩) ?_ ?_
            rotate_left
            · intro w'
              go_simp
              with_reducible rfl
            rotate_left
            · simp only [Act.put, List.setIfInBounds_toArray, List.set_cons_zero, List.set_cons_succ, i64_w, i32_w]
              rfl
            refine pure_ (i := 2) (N := some 53) (v := ?_) (a' := ?_) #[true, true, true, false, false, false, false, false, false, false, false] rfl rfl (any_of HT_.out (by kernel_rfl)) (fun _ _ _ h => h) (Or.inl ⟨by rfl, ?_⟩) ?_ ?_
            rotate_left
            · intro w'
              go_simp
              with_reducible rfl
            rotate_left
            · simp only [Act.put, List.setIfInBounds_toArray, List.set_cons_zero, List.set_cons_succ, i64_w, i32_w]
              rfl
            refine pure_ (i := 4) (N := some 55) (v := ?_) (a' := ?_) #[true, true, true, false, true, false, false, false, false, false, false] rfl rfl (any_of HT_.out (by kernel_rfl)) (fun _ _ _ h => h) (Or.inl ⟨by rfl, ?_⟩) ?_ ?_
            rotate_left
            · intro w'
              go_simp
              with_reducible rfl
            rotate_left
            · simp only [Act.put, List.setIfInBounds_toArray, List.set_cons_zero, List.set_cons_succ, i64_w, i32_w]
              rfl
            refine pure_ (i := 5) (N := some 56) (v := ?_) (a' := ?_) #[true, true, true, false, true, true, false, false, false, false, false] rfl rfl (any_of HT_.out (by kernel_rfl)) (fun _ _ _ h => h) (Or.inl ⟨by rfl, ?_⟩) ?_ ?_
            rotate_left
            · intro w'
              go_simp
              with_reducible rfl
            rotate_left
            · simp only [Act.put, List.setIfInBounds_toArray, List.set_cons_zero, List.set_cons_succ, i64_w, i32_w]
              rfl
            refine pure_ (i := 6) (N := some 57) (v := ?_) (a' := ?_) #[true, true, true, false, true, true, true, false, false, false, false] rfl rfl (any_of HT_.out (by kernel_rfl)) (fun _ _ _ h => h) (Or.inl ⟨by rfl, ?_⟩) ?_ ?_
            rotate_left
            · intro w'
              go_simp
              with_reducible rfl
            rotate_left
            · simp only [Act.put, List.setIfInBounds_toArray, List.set_cons_zero, List.set_cons_succ, i64_w, i32_w]
              rfl
            refine take_ (i := 3) (N := some 54) (v := ?_) (a' := ?_) #[true, true, true, true, true, true, true, false, false, false, false] rfl rfl (take_ofW HT_.out HW_.out (by kernel_rfl)) (fun _ _ _ h => h) (Or.inl ⟨by rfl, ?_⟩) hHeld ?_ ?_
            rotate_left
            · rintro w' ⟨s0, s1, s2, s3⟩
              go_simp
              with_reducible rfl
            rotate_left
            · simp only [Act.put, List.setIfInBounds_toArray, List.set_cons_zero, List.set_cons_succ, i64_w, i32_w]
              rfl
            refine take_ (i := 7) (N := some 58) (v := ?_) (a' := ?_) #[true, true, true, true, true, true, true, true, false, false, false] rfl rfl (take_ofW HT_.out HW_.out (by kernel_rfl)) (fun _ _ _ h => h) (Or.inl ⟨by rfl, ?_⟩) hHeld ?_ ?_
            rotate_left
            · rintro w' ⟨s0, s1, s2, s3⟩
              go_simp
              with_reducible rfl
            rotate_left
            · simp only [Act.put, List.setIfInBounds_toArray, List.set_cons_zero, List.set_cons_succ, i64_w, i32_w]
              rfl
            refine one_ (i := 8) (N := some 59) #[true, true, true, true, true, true, true, true, true, false, false] rfl rfl (one_of HT_.out (by kernel_rfl)) (by decide) (fun K hK => ?_)
            refine goes_ Try.func24 (by kernel_rfl) rfl #[.agg #[.int .i64 t353, .slice Ao47 t354.length co47], .agg #[.int .i64 ((rd_T27 y341 t325).f0), .slice A359_1 ((rd_T27 y341 t325).f1).length c359_1]] (by rfl) rfl rfl (by (try simp only [List.map_toArray, List.map_cons, List.map_nil]); first | done | rfl | (simp only [List.length_drop, List.length_take]; rfl)) ?_
            with_reducible refine (interlocutorref10_Cmp.calls k t353 _ _ t354 ((rd_T27 y341 t325).f0) _ _ ((rd_T27 y341 t325).f1) t360 _ ?side1 ?side2 ?side3 ?side4 A51.out).mono ?_
            (case side1 => repeat (first | exact (Kd.R_reads' HO356.out).2.2 | (with_reducible refine Kd.C_alloc ?_ _) | (with_reducible refine Kd.C_drewN ?_ _) | (with_reducible refine Kd.C_drew ?_)))
            (case side2 => exact (Kd.R_reads' HO356.out).2.1)
            (case side3 => repeat (first | exact (by repeat (first | (with_reducible exact HR359_1.out) | (with_reducible refine Kd.C_alloc ?_ _) | (with_reducible refine Kd.C_drewN ?_ _) | (with_reducible refine Kd.C_drew ?_) | exact HR359_1.out)) | (with_reducible refine Kd.C_alloc ?_ _) | (with_reducible refine Kd.C_drewN ?_ _) | (with_reducible refine Kd.C_drew ?_)))
            (case side4 => exact HC359_1.out)
            rintro e w55 ⟨rfl, hb⟩
            have HS2_ := (hb.cell (World.block_lt_of_cell? _ _ (hHeld.2.2.1))).trans (hHeld.2.2.1)
            have HS3_ := (hb.cell (World.block_lt_of_cell? _ _ (hHeld.2.2.2))).trans (hHeld.2.2.2)
            refine ⟨_, rfl, ?_⟩
            have n0_ := Aside0.mk (Kd.N_below (by (with_reducible repeat (first | apply Kd.N_alloc | apply Kd.N_drewN | apply Kd.N_drew)); exact HO324.out) hb)
            have n1_ := Aside0.mk (Kd.N_below (by (with_reducible repeat (first | apply Kd.N_alloc | apply Kd.N_drewN | apply Kd.N_drew)); exact HO343.out) hb)
            have n2_ := Aside0.mk (Kd.R_below (by (with_reducible repeat (first | apply Kd.R_alloc | apply Kd.R_drewN | apply Kd.R_drew)); exact HO346.out) hb)
            have n3_ := Aside0.mk (Kd.R_below (by (with_reducible repeat (first | apply Kd.R_alloc | apply Kd.R_drewN | apply Kd.R_drew)); exact HO356.out) hb)
            have n4_ := Aside0.mk (Kd.V_below (by (with_reducible repeat (first | apply Kd.V_alloc | apply Kd.V_drewN | apply Kd.V_drew)); exact HL359_1.out) hb)
            have n5_ := Aside0.mk (blk_below (g := gb358) (o := .cells #[.int .i64 t353, .slice Ao47 t354.length co47] 27 (0, 0)) (by (with_reducible repeat (first | refine blk_drewN ?_ _ | refine blk_drew ?_ | refine blk_alloc ?_ _)); exact BK358.out) hb)
            have n6_ := Aside0.mk (Kd.C_below (by repeat (first | (with_reducible exact HR359_1.out) | (with_reducible refine Kd.C_alloc ?_ _) | (with_reducible refine Kd.C_drewN ?_ _) | (with_reducible refine Kd.C_drew ?_) | exact HR359_1.out)) hb)
            have n7_ := Aside0.mk (below_step (by repeat (first | (with_reducible first | exact HB.out | apply below_alloc | apply pw_below_drewN | apply below_drew1 | refine below_set ?_ GE358.out) | exact HB.out)) hb)
            clear HO324
            clear HO343
            clear HO346
            clear HO356
            clear HL359_1
            clear BK358
            clear HR359_1
            clear HB
            have HO324 := n0_
            have HO343 := n1_
            have HO346 := n2_
            have HO356 := n3_
            have HL359_1 := n4_
            have BK358 := n5_
            have HR359_1 := n6_
            have HB := n7_
            clear n0_ n1_ n2_ n3_ n4_ n5_ n6_ n7_
            (try clear hb)
            (try clear hb2)
            (try clear hk)
            (try clear hi)
            refine hK.out _ _ ⟨(blk_cell BK358.out 0).trans rfl, (blk_cell BK358.out 1).trans rfl, HS2_, HS3_⟩ (fun hHeld => ?_)
            clear hK K
            refine norm_ (a' := ?_) ?_ ?_
            rotate_left
            · show Act.put _ (some 59) _ = _
              simp only [Act.put, List.setIfInBounds_toArray, List.set_cons_zero, List.set_cons_succ, i64_w, i32_w]
              rfl
            refine pure_ (i := 9) (N := some 60) (v := ?_) (a' := ?_) #[true, true, true, true, true, true, true, true, true, true, false] rfl rfl (any_of HT_.out (by kernel_rfl)) (fun _ _ _ h => h) (Or.inl ⟨by rfl, ?_⟩) ?_ ?_
            rotate_left
            · intro w'
              go_simp
              with_reducible rfl
            rotate_left
            · simp only [Act.put, List.setIfInBounds_toArray, List.set_cons_zero, List.set_cons_succ, i64_w, i32_w]
              rfl
            refine pure_ (i := 10) (N := some 61) (v := ?_) (a' := ?_) #[true, true, true, true, true, true, true, true, true, true, true] rfl rfl (any_of HT_.out (by kernel_rfl)) (fun _ _ _ h => h) (Or.inl ⟨by rfl, ?_⟩) ?_ ?_
            rotate_left
            · intro w'
              go_simp
              with_reducible rfl
            rotate_left
            · simp only [Act.put, List.setIfInBounds_toArray, List.set_cons_zero, List.set_cons_succ, i64_w, i32_w]
              rfl
            refine done_ (done_of HT_.out (by kernel_rfl)) ?_
            try go_wp2
            go_meet
            case rel => exact ⟨_, ((t360 != 0)), (by first | rfl | (simp; done) | (simp [*]; done)), H', ⟨by first | omega | exact Nat.le_refl _⟩, ⟨by (with_reducible repeat (first | apply Kd.N_alloc | apply Kd.N_drewN | apply Kd.N_drew)); exact Kd.N_mono HO324.out (fun _ hk => ⟨hk.1, ⟨hk.2.2.1, hk.2.2.2⟩⟩)⟩, ⟨by (with_reducible repeat (first | apply Kd.N_alloc | apply Kd.N_drewN | apply Kd.N_drew)); exact Kd.N_mono HO343.out (fun _ hk => ⟨hk.1, ⟨hk.2.2.1, hk.2.2.2⟩⟩)⟩, ⟨by (with_reducible repeat (first | apply Kd.R_alloc | apply Kd.R_drewN | apply Kd.R_drew)); exact Kd.R_mono HO356.out (fun _ hk => trivial)⟩, ⟨by (with_reducible repeat (first | refine blk_drewN ?_ _ | refine blk_drew ?_ | refine blk_alloc ?_ _)); exact BK358.out⟩, ⟨by repeat (first | (with_reducible first | exact HB.out | apply below_alloc | apply pw_below_drewN | apply below_drew1 | refine below_set ?_ GE358.out) | exact HB.out)⟩⟩
          · rw [if_neg c50] at H
            exact absurd H (by simp)
        · rw [if_neg c49] at H
          exact absurd H (by simp)
      · replace c48 := Bool.eq_false_iff.mpr c48
        subst c48
        have H1 : (interlocutorlaw8_ActPicks.j0 k a2 y322 t325 y341 true t353 t354) = some r := by rw [if_neg (show ¬ (false = true) by decide)] at H; exact H
        clear H
        have H := H1
        clear H1
        have H' := Aside0.mk H
        clear H
        try go_wp2
        have n0_ : Aside0 (Kd.N k27 27 ((w45.setCell ⟨gb358, 0, none⟩ (.int .i64 t353)).setCell ⟨gb358, 1, none⟩ (.slice Ao47 t354.length co47)) w.heap.size (fun k_ => some k_ ≠ (v342 : Value).ownBlock ∧ some k_ ≠ (.slice Ao41 y344.length co41 : Value).ownBlock ∧ some k_ ≠ (.slice Ao47 t354.length co47 : Value).ownBlock ∧ k_ ≠ gb358) (.slice Ao43 y322.length co43) y322) := ⟨by (with_reducible repeat (first | apply Kd.N_alloc | apply Kd.N_drewN | apply Kd.N_drew)); exact Kd.N_mono (Kd.N_far (p := ⟨gb358, 1, none⟩) (Kd.N_far (p := ⟨gb358, 0, none⟩) (Kd.N_mono HO324.out (fun k_ hk => (⟨hk, hk.2⟩ : _ ∧ k_ ≠ gb358))) (fun _ hk => hk.2) (.int .i64 t353)) (fun _ hk => hk.2) (.slice Ao47 t354.length co47)) (fun _ hk => ⟨hk.1.1.1.1.2, ⟨hk.1.1.1.2, ⟨hk.1.1.2, hk.1.2⟩⟩⟩)⟩
        have n1_ : Aside0 (Kd.N k27 27 ((w45.setCell ⟨gb358, 0, none⟩ (.int .i64 t353)).setCell ⟨gb358, 1, none⟩ (.slice Ao47 t354.length co47)) w.heap.size (fun k_ => some k_ ≠ (.slice Ao43 y322.length co43 : Value).ownBlock ∧ some k_ ≠ (.slice Ao41 y344.length co41 : Value).ownBlock ∧ some k_ ≠ (.slice Ao47 t354.length co47 : Value).ownBlock ∧ k_ ≠ gb358) v342 y341) := ⟨by (with_reducible repeat (first | apply Kd.N_alloc | apply Kd.N_drewN | apply Kd.N_drew)); exact Kd.N_mono (Kd.N_far (p := ⟨gb358, 1, none⟩) (Kd.N_far (p := ⟨gb358, 0, none⟩) (Kd.N_mono HO343.out (fun k_ hk => (⟨hk, hk.2⟩ : _ ∧ k_ ≠ gb358))) (fun _ hk => hk.2) (.int .i64 t353)) (fun _ hk => hk.2) (.slice Ao47 t354.length co47)) (fun _ hk => ⟨hk.1.1.1.1, ⟨hk.1.1.1.2, ⟨hk.1.1.2, hk.1.2⟩⟩⟩)⟩
        have n2_ : Aside0 (Kd.R (Kd.int .i64) 3 ((w45.setCell ⟨gb358, 0, none⟩ (.int .i64 t353)).setCell ⟨gb358, 1, none⟩ (.slice Ao47 t354.length co47)) w.heap.size (fun k_ => some k_ ≠ (.slice Ao47 t354.length co47 : Value).ownBlock) (.slice Ao41 y344.length co41) y344) := ⟨by (with_reducible repeat (first | apply Kd.R_alloc | apply Kd.R_drewN | apply Kd.R_drew)); exact Kd.R_mono (Kd.R_far (p := ⟨gb358, 1, none⟩) (Kd.R_far (p := ⟨gb358, 0, none⟩) (Kd.R_types HO346.out BK358.out (by decide)) (fun _ hk => hk.2) (.int .i64 t353)) (fun _ hk => hk.2) (.slice Ao47 t354.length co47)) (fun _ hk => hk.1.2)⟩
        have n3_ : Aside0 (Kd.R (Kd.int .i64) 3 ((w45.setCell ⟨gb358, 0, none⟩ (.int .i64 t353)).setCell ⟨gb358, 1, none⟩ (.slice Ao47 t354.length co47)) w.heap.size (fun k_ => some k_ ≠ (.slice Ao41 y344.length co41 : Value).ownBlock) (.slice Ao47 t354.length co47) t354) := ⟨by (with_reducible repeat (first | apply Kd.R_alloc | apply Kd.R_drewN | apply Kd.R_drew)); exact Kd.R_mono (Kd.R_far (p := ⟨gb358, 1, none⟩) (Kd.R_far (p := ⟨gb358, 0, none⟩) (Kd.R_types HO356.out BK358.out (by decide)) (fun _ hk => hk.2) (.int .i64 t353)) (fun _ hk => hk.2) (.slice Ao47 t354.length co47)) (fun _ hk => hk.1.2)⟩
        have n4_ : Aside0 (((w45.setCell ⟨gb358, 0, none⟩ (.int .i64 t353)).setCell ⟨gb358, 1, none⟩ (.slice Ao47 t354.length co47)).heap[gb358]? = some (.cells #[.int .i64 t353, .slice Ao47 t354.length co47] 27 (0, 0))) := ⟨by (with_reducible repeat (first | refine blk_drewN ?_ _ | refine blk_drew ?_ | refine blk_alloc ?_ _)); refine blk_put (cs := #[.int .i64 t353, .slice none 0 0]) ?_ 1 _ rfl; (with_reducible repeat (first | refine blk_drewN ?_ _ | refine blk_drew ?_ | refine blk_alloc ?_ _)); refine blk_put (cs := #[.int .i64 0, .slice none 0 0]) ?_ 0 _ rfl; (with_reducible repeat (first | refine blk_drewN ?_ _ | refine blk_drew ?_ | refine blk_alloc ?_ _)); exact BK358.out⟩
        have n5_ : Aside0 (Below w.heap.size w ((w45.setCell ⟨gb358, 0, none⟩ (.int .i64 t353)).setCell ⟨gb358, 1, none⟩ (.slice Ao47 t354.length co47))) := ⟨by repeat (first | (with_reducible first | exact HB.out | apply below_alloc | apply pw_below_drewN | apply below_drew1 | refine below_set ?_ GE358.out) | exact HB.out)⟩
        (try clear HO324)
        (try clear HO343)
        (try clear HO346)
        (try clear HO356)
        (try clear BK358)
        (try clear HB)
        generalize ((w45.setCell ⟨gb358, 0, none⟩ (.int .i64 t353)).setCell ⟨gb358, 1, none⟩ (.slice Ao47 t354.length co47)) = w56 at n0_ n1_ n2_ n3_ n4_ n5_ ⊢
        have HO324 := n0_
        have HO343 := n1_
        have HO346 := n2_
        have HO356 := n3_
        have BK358 := n4_
        have HB := n5_
        clear n0_ n1_ n2_ n3_ n4_ n5_
        have n0_ := Aside0.mk (Kd.N_drew HO324.out)
        have n1_ := Aside0.mk (Kd.N_drew HO343.out)
        have n2_ := Aside0.mk (Kd.R_drew HO346.out)
        have n3_ := Aside0.mk (Kd.R_drew HO356.out)
        have n4_ := Aside0.mk (blk_drew BK358.out)
        have n5_ := Aside0.mk (below_drew1 HB.out)
        clear HO324
        clear HO343
        clear HO346
        clear HO356
        clear BK358
        clear HB
        have HO324 := n0_
        have HO343 := n1_
        have HO346 := n2_
        have HO356 := n3_
        have BK358 := n4_
        have HB := n5_
        clear n0_ n1_ n2_ n3_ n4_ n5_
        refine start_ (n := 11) (S := fun w' => True) (ds := []) #[false, false, false, false, false, false, false, false, false, false, false] (by kernel_rfl) rfl rfl trivial (fun hHeld => ?_); refine with_tabW interlocutorlaw8_ActPicks.tab7 interlocutorlaw8_ActPicks.bits7 (fun HT_ HW_ => ?_)
        generalize w56.drew = w57 at HO324 HO343 HO346 HO356 BK358 HB hHeld ⊢
        refine pure_ (i := 0) (N := some 51) (v := ?_) (a' := ?_) #[true, false, false, false, false, false, false, false, false, false, false] rfl rfl (any_of HT_.out (by kernel_rfl)) (fun _ _ _ h => h) (Or.inl ⟨by rfl, ?_⟩) ?_ ?_
        rotate_left
        · intro w'
          go_simp
          with_reducible rfl
        rotate_left
        · simp only [Act.put, List.setIfInBounds_toArray, List.set_cons_zero, List.set_cons_succ, i64_w, i32_w]
          rfl
        refine pure_ (i := 1) (N := some 52) (v := ?_) (a' := ?_) #[true, true, false, false, false, false, false, false, false, false, false] rfl rfl (any_of HT_.out (by kernel_rfl)) (fun _ _ _ h => h) (Or.inl ⟨by rfl, ?_⟩) ?_ ?_
        rotate_left
        · intro w'
          go_simp
          with_reducible rfl
        rotate_left
        · simp only [Act.put, List.setIfInBounds_toArray, List.set_cons_zero, List.set_cons_succ, i64_w, i32_w]
          rfl
        refine pure_ (i := 2) (N := some 53) (v := ?_) (a' := ?_) #[true, true, true, false, false, false, false, false, false, false, false] rfl rfl (any_of HT_.out (by kernel_rfl)) (fun _ _ _ h => h) (Or.inl ⟨by rfl, ?_⟩) ?_ ?_
        rotate_left
        · intro w'
          go_simp
          with_reducible rfl
        rotate_left
        · simp only [Act.put, List.setIfInBounds_toArray, List.set_cons_zero, List.set_cons_succ, i64_w, i32_w]
          rfl
        refine pure_ (i := 3) (N := some 54) (v := undef) (a' := ?_) #[true, true, true, true, false, false, false, false, false, false, false] rfl rfl (any_of HT_.out (by kernel_rfl)) (fun _ _ _ h => h) (Or.inr ⟨by rfl, rfl⟩) ?_ ?_
        rotate_left
        · simp only [Act.put, List.setIfInBounds_toArray, List.set_cons_zero, List.set_cons_succ, i64_w, i32_w]
          rfl
        refine pure_ (i := 4) (N := some 55) (v := undef) (a' := ?_) #[true, true, true, true, true, false, false, false, false, false, false] rfl rfl (any_of HT_.out (by kernel_rfl)) (fun _ _ _ h => h) (Or.inr ⟨by rfl, rfl⟩) ?_ ?_
        rotate_left
        · simp only [Act.put, List.setIfInBounds_toArray, List.set_cons_zero, List.set_cons_succ, i64_w, i32_w]
          rfl
        refine pure_ (i := 5) (N := some 56) (v := undef) (a' := ?_) #[true, true, true, true, true, true, false, false, false, false, false] rfl rfl (any_of HT_.out (by kernel_rfl)) (fun _ _ _ h => h) (Or.inr ⟨by rfl, rfl⟩) ?_ ?_
        rotate_left
        · simp only [Act.put, List.setIfInBounds_toArray, List.set_cons_zero, List.set_cons_succ, i64_w, i32_w]
          rfl
        refine pure_ (i := 6) (N := some 57) (v := undef) (a' := ?_) #[true, true, true, true, true, true, true, false, false, false, false] rfl rfl (any_of HT_.out (by kernel_rfl)) (fun _ _ _ h => h) (Or.inr ⟨by rfl, rfl⟩) ?_ ?_
        rotate_left
        · simp only [Act.put, List.setIfInBounds_toArray, List.set_cons_zero, List.set_cons_succ, i64_w, i32_w]
          rfl
        refine pure_ (i := 7) (N := some 58) (v := undef) (a' := ?_) #[true, true, true, true, true, true, true, true, false, false, false] rfl rfl (any_of HT_.out (by kernel_rfl)) (fun _ _ _ h => h) (Or.inr ⟨by rfl, rfl⟩) ?_ ?_
        rotate_left
        · simp only [Act.put, List.setIfInBounds_toArray, List.set_cons_zero, List.set_cons_succ, i64_w, i32_w]
          rfl
        refine pure_ (i := 8) (N := some 59) (v := undef) (a' := ?_) #[true, true, true, true, true, true, true, true, true, false, false] rfl rfl (any_of HT_.out (by kernel_rfl)) (fun _ _ _ h => h) (Or.inr ⟨by rfl, rfl⟩) ?_ ?_
        rotate_left
        · simp only [Act.put, List.setIfInBounds_toArray, List.set_cons_zero, List.set_cons_succ, i64_w, i32_w]
          rfl
        refine pure_ (i := 9) (N := some 60) (v := undef) (a' := ?_) #[true, true, true, true, true, true, true, true, true, true, false] rfl rfl (any_of HT_.out (by kernel_rfl)) (fun _ _ _ h => h) (Or.inr ⟨by rfl, rfl⟩) ?_ ?_
        rotate_left
        · simp only [Act.put, List.setIfInBounds_toArray, List.set_cons_zero, List.set_cons_succ, i64_w, i32_w]
          rfl
        refine pure_ (i := 10) (N := some 61) (v := ?_) (a' := ?_) #[true, true, true, true, true, true, true, true, true, true, true] rfl rfl (any_of HT_.out (by kernel_rfl)) (fun _ _ _ h => h) (Or.inl ⟨by rfl, ?_⟩) ?_ ?_
        rotate_left
        · intro w'
          go_simp
          with_reducible rfl
        rotate_left
        · simp only [Act.put, List.setIfInBounds_toArray, List.set_cons_zero, List.set_cons_succ, i64_w, i32_w]
          rfl
        refine done_ (done_of HT_.out (by kernel_rfl)) ?_
        try go_wp2
        go_meet
        case rel => exact ⟨_, (true), (by first | rfl | (simp; done) | (simp [*]; done)), H', ⟨by first | omega | exact Nat.le_refl _⟩, ⟨by (with_reducible repeat (first | apply Kd.N_alloc | apply Kd.N_drewN | apply Kd.N_drew)); exact Kd.N_mono HO324.out (fun _ hk => ⟨hk.1, ⟨hk.2.2.1, hk.2.2.2⟩⟩)⟩, ⟨by (with_reducible repeat (first | apply Kd.N_alloc | apply Kd.N_drewN | apply Kd.N_drew)); exact Kd.N_mono HO343.out (fun _ hk => ⟨hk.1, ⟨hk.2.2.1, hk.2.2.2⟩⟩)⟩, ⟨by (with_reducible repeat (first | apply Kd.R_alloc | apply Kd.R_drewN | apply Kd.R_drew)); exact Kd.R_mono HO356.out (fun _ hk => trivial)⟩, ⟨by (with_reducible repeat (first | refine blk_drewN ?_ _ | refine blk_drew ?_ | refine blk_alloc ?_ _)); exact BK358.out⟩, ⟨by repeat (first | (with_reducible first | exact HB.out | apply below_alloc | apply pw_below_drewN | apply below_drew1 | refine below_set ?_ GE358.out) | exact HB.out)⟩⟩
    case rest =>
      clear HC21
      try clear c1
      try clear c2
      try clear p2
      try clear c3
      try clear p3
      try clear q3
      try clear hx3
      try clear c4
      try clear c5
      try clear p6
      try clear c12
      try clear c17
      try clear c18
      try clear c19
      try clear c21
      try clear c22
      try clear c24
      try clear c35
      try clear p35
      try clear q35
      try clear hx35
      try clear c48
      try clear c49
      try clear c49b0
      try clear c50
      try clear c50b0
      try clear hcz46_0
      try clear hcz46_1
      try clear hfz46_0
      try clear hfz46_1
      try clear hx359_0
      try clear hx359_1
      try clear p359
      try clear q359
      obtain ⟨kq, x61_20, rfl, HA, HJ20, HO_7, HO_9, HO_359001, BK358, HB⟩ := hcut
      cases kq with
      | zero => exact absurd HA.out (by simp [interlocutorlaw8_ActPicks.j0])
      | succ kj20 =>
        have H := HA.out
        clear HA
        simp only [interlocutorlaw8_ActPicks.j0] at H
        by_cases c58 : x61_20 = true
        · subst c58
          have H1 : (some false) = some r := by rw [if_pos rfl] at H; exact H
          clear H
          have H := H1
          clear H1
          obtain rfl := Option.some.inj H
          go_wp2
          go_ret
          exact ⟨by first | rfl | (simp [errW_none, errW_some] <;> rfl) | (simp [*, errW_none, errW_some] <;> rfl), by repeat (first | (with_reducible first | exact HB.out | apply below_alloc | apply pw_below_drewN | apply below_drew1 | refine below_set ?_ GE358.out) | exact HB.out)⟩
        · replace c58 := Bool.eq_false_iff.mpr c58
          subst c58
          have H1 : (interlocutorlaw8_ActPicks.l0 kj20 a2 y322 t325 y341 0 t353 t354) = some r := by rw [if_neg (show ¬ (false = true) by decide)] at H; exact H
          clear H
          have H := H1
          clear H1
          have H' := Aside0.mk H
          clear H
          go_wp2
          go_loopg [12] kj20 (fun kq v12 w' => ∃ (x12_2 : Int) (x359001_2 : List Int) (u359001 : Value), v12 = .int .i64 x12_2 ∧ Aside0 (interlocutorlaw8_ActPicks.l0 kq a2 y322 t325 y341 x12_2 t353 x359001_2 = some r) ∧ Aside0 (kq ≤ kj20) ∧ Aside0 (Kd.N k27 27 w' w.heap.size (fun k_ => some k_ ≠ (v342 : Value).ownBlock ∧ some k_ ≠ (u359001 : Value).ownBlock ∧ k_ ≠ gb358) (.slice Ao43 y322.length co43) y322) ∧ Aside0 (Kd.N k27 27 w' w.heap.size (fun k_ => some k_ ≠ ((.slice Ao43 y322.length co43) : Value).ownBlock ∧ some k_ ≠ (u359001 : Value).ownBlock ∧ k_ ≠ gb358) v342 y341) ∧ Aside0 (Kd.R (Kd.int .i64) 3 w' w.heap.size (fun _ => True) u359001 x359001_2) ∧ Aside0 (w'.heap[gb358]? = some (.cells #[.int .i64 t353, u359001] 27 (0, 0))) ∧ Aside0 (Below w.heap.size w w'))
          case atStart => exact ⟨(0), (t354), (.slice Ao47 t354.length co47), (by first | rfl | (simp; done) | (simp [*]; done)), H', ⟨Nat.le_refl _⟩, ⟨by (with_reducible repeat (first | apply Kd.N_alloc | apply Kd.N_drewN | apply Kd.N_drew)); exact HO_7.out⟩, ⟨by (with_reducible repeat (first | apply Kd.N_alloc | apply Kd.N_drewN | apply Kd.N_drew)); exact HO_9.out⟩, ⟨by (with_reducible repeat (first | apply Kd.R_alloc | apply Kd.R_drewN | apply Kd.R_drew)); exact HO_359001.out⟩, ⟨by (with_reducible repeat (first | refine blk_drewN ?_ _ | refine blk_drew ?_ | refine blk_alloc ?_ _)); exact BK358.out⟩, ⟨by repeat (first | (with_reducible first | exact HB.out | apply below_alloc | apply pw_below_drewN | apply below_drew1 | refine below_set ?_ GE358.out) | exact HB.out)⟩⟩
          case round =>
            clear H'
            try clear c1
            try clear c2
            try clear p2
            try clear c3
            try clear p3
            try clear q3
            try clear hx3
            try clear c4
            try clear c5
            try clear p6
            try clear c12
            try clear c17
            try clear c18
            try clear c19
            try clear c21
            try clear c22
            try clear c24
            try clear c35
            try clear p35
            try clear q35
            try clear hx35
            try clear c48
            try clear c49
            try clear c49b0
            try clear c50
            try clear c50b0
            try clear c58
            try clear hcz46_0
            try clear hcz46_1
            try clear hfz46_0
            try clear hfz46_1
            try clear hx359_0
            try clear hx359_1
            try clear p2
            try clear p3
            try clear p35
            try clear p359
            try clear p6
            try clear q3
            try clear q35
            try clear q359
            obtain ⟨x12_2, x359001_2, u359001, rfl, HA, HK2, HO_7, HO_9, HO_359001, BK358, HB⟩ := hrel
            cases gk with
            | zero => exact absurd HA.out (by simp [interlocutorlaw8_ActPicks.l0])
            | succ k2 =>
              have H := HA.out
              clear HA
              simp only [interlocutorlaw8_ActPicks.l0] at H
              by_cases c59 : x12_2 < (x359001_2.length : Int)
              · rw [if_pos c59] at H
                have c59b0 : decide (x12_2 < (x359001_2.length : Int)) = true := decide_eq_true c59
                clear c59
                by_cases c60 : 0 ≤ x12_2
                · rw [if_pos c60] at H
                  have c60b0 : decide (0 ≤ x12_2) = true := decide_eq_true c60
                  clear c60
                  obtain ⟨y361, hy361⟩ : ∃ y_ : List Int, y_ = (x359001_2.set (x12_2 : Int).toNat a2) := ⟨_, rfl⟩
                  replace H : (interlocutorlaw8_ActPicks.l0 k2 a2 y322 t325 y341 (wrap64 (x12_2 + 1)) t353 y361) = some r := by first | (rw [hy361]; with_reducible exact H) | (have H2_ := (Option.bind_some _ _).symm.trans H; rw [hy361]; with_reducible exact H2_) | (have H2_ := (Option.bind_some _ _).symm.trans H; with_reducible exact H2_) | with_reducible exact H | (rw [hy361]; exact H) | exact H
                  have Ny361 := Aside0.mk hy361
                  clear hy361
                  have H' := Aside0.mk H
                  clear H
                  have hcz62_0 : wr.cell? ⟨gb358, 0, none⟩ = some (.int .i64 t353) := (blk_cell BK358.out 0).trans rfl
                  have hcz62_1 : wr.cell? ⟨gb358, 1, none⟩ = some (u359001) := (blk_cell BK358.out 1).trans rfl
                  have hfz62_0 := blk_frozen BK358.out 0
                  have hfz62_1 := blk_frozen BK358.out 1
                  obtain ⟨Ao63, co63, eo63⟩ := Kd.R_slice HO_359001.out
                  subst eo63
                  have p61 : 0 ≤ (x12_2 : Int) := of_decide_eq_true (by first | (with_reducible assumption) | assumption)
                  have q61 : (x12_2 : Int) < ((x359001_2.length : Int) : Int) := of_decide_eq_true (by first | (with_reducible assumption) | assumption)
                  obtain ⟨go61, co61, eo61, gb61, gl61, cl61, HG61⟩ := Kd.R_form HO_359001.out (by omega)
                  (first | cases eo61 | (injection eo61 with ea_ en_ ec_; (first | subst ea_ | (injection ea_ with ea_; subst ea_)); subst ec_; clear en_))
                  have GB61 := Aside0.mk gb61
                  have GG61 := Aside0.mk HG61
                  clear gb61 gl61 HG61
                  obtain ⟨hx61_0, hf61_0⟩ := Kd.R_celln 0 HO_359001.out (x12_2 : Int) p61 q61
                  replace p61 := eq_true p61
                  replace q61 := eq_true q61
                  have HP64 := Kd.R_putg HO_359001.out (x12_2 : Int) a2
                  go_wp2_with (first | ((with_reducible refine gate_store (t := 3) (p := 73) rfl ?_); refine store_event (t := 3) (p := 73) (v := ?vo_w65) (w1 := (wr.setCell ⟨go61, (x12_2 : Int).toNat, none⟩ (.int .i64 a2))) ?hg ?ho ?hn ?hr ?_; (case ho => rfl); (case hg => rfl); (case hn => rfl); (case hr => first | (go_simp; done) | (go_simp; rfl)); intro w65 hw; have hg : wr.grownBy w65 (some go61) := (by rw [hw]; exact HP64.2); have hp_ : Kd.R (Kd.int .i64) 3 w65 w.heap.size (fun _ => True) (.slice (some ⟨go61, 0, none⟩) x359001_2.length co63) y361 := (by rw [hw, Ny361.out]; exact HP64.1); clear HP64; have n0_ := Aside0.mk (Kd.N_afterv (v := (.slice (some ⟨go61, 0, none⟩) x359001_2.length co63)) (v1 := (.slice (some ⟨go61, 0, none⟩) x359001_2.length co63)) (ok := (fun k_ => some k_ ≠ (v342 : Value).ownBlock ∧ k_ ≠ gb358)) (by (with_reducible repeat (first | apply Kd.N_alloc | apply Kd.N_drewN | apply Kd.N_drew)); exact Kd.N_mono HO_7.out (fun _ hk => ⟨⟨hk.1, hk.2.2⟩, hk.2.1⟩)) hg (.inl rfl)); have n1_ := Aside0.mk (Kd.N_afterv (v := (.slice (some ⟨go61, 0, none⟩) x359001_2.length co63)) (v1 := (.slice (some ⟨go61, 0, none⟩) x359001_2.length co63)) (ok := (fun k_ => some k_ ≠ (.slice Ao43 y322.length co43 : Value).ownBlock ∧ k_ ≠ gb358)) (by (with_reducible repeat (first | apply Kd.N_alloc | apply Kd.N_drewN | apply Kd.N_drew)); exact Kd.N_mono HO_9.out (fun _ hk => ⟨⟨hk.1, hk.2.2⟩, hk.2.1⟩)) hg (.inl rfl)); have n2_ := Aside0.mk (hp_); have n3_ := Aside0.mk (blk_grown (g := gb358) (o := .cells #[.int .i64 t353, .slice (some ⟨go61, 0, none⟩) x359001_2.length co63] 27 (0, 0)) (by (with_reducible repeat (first | refine blk_drewN ?_ _ | refine blk_drew ?_ | refine blk_alloc ?_ _)); exact BK358.out) hg (Kd.R_ne HO_359001.out BK358.out (by decide))); have n4_ := Aside0.mk ((by rw [hw]; exact below_set (HB.out) GB61.out : Below w.heap.size w w65)); clear HO_7; clear HO_9; clear HO_359001; clear BK358; clear HB; have HO_7 := n0_; have HO_9 := n1_; have HO_359001 := n2_; have BK358 := n3_; have HB := n4_; clear n0_ n1_ n2_ n3_ n4_; clear hg hw hp_))
                  go_roundg k2
                  case measure => have := HJ20.out; have := HK2.out; omega
                  case rel => exact ⟨(wrap64 (x12_2 + 1)), (y361), (.slice (some ⟨go61, 0, none⟩) x359001_2.length co63), (by first | rfl | (simp; done) | (simp [*]; done)), H', ⟨by have := HJ20.out; have := HK2.out; omega⟩, ⟨by (with_reducible repeat (first | apply Kd.N_alloc | apply Kd.N_drewN | apply Kd.N_drew)); exact Kd.N_mono HO_7.out (fun _ hk => ⟨hk.1.1, ⟨hk.2, hk.1.2⟩⟩)⟩, ⟨by (with_reducible repeat (first | apply Kd.N_alloc | apply Kd.N_drewN | apply Kd.N_drew)); exact Kd.N_mono HO_9.out (fun _ hk => ⟨hk.1.1, ⟨hk.2, hk.1.2⟩⟩)⟩, ⟨by (with_reducible repeat (first | apply Kd.R_alloc | apply Kd.R_drewN | apply Kd.R_drew)); exact HO_359001.out⟩, ⟨by (with_reducible repeat (first | refine blk_drewN ?_ _ | refine blk_drew ?_ | refine blk_alloc ?_ _)); exact BK358.out⟩, ⟨by repeat (first | (with_reducible first | exact HB.out | apply below_alloc | apply pw_below_drewN | apply below_drew1 | refine below_set ?_ GE358.out) | exact HB.out)⟩⟩
                · rw [if_neg c60] at H
                  exact absurd H (by simp)
              · rw [if_neg c59] at H
                have c59b0 : decide (x12_2 < (x359001_2.length : Int)) = false := decide_eq_false c59
                clear c59
                by_cases c66 : 0 ≤ t325
                · rw [if_pos c66] at H
                  have c66b0 : decide (0 ≤ t325) = true := decide_eq_true c66
                  clear c66
                  by_cases c67 : t325 < (y322.length : Int)
                  · rw [if_pos c67] at H
                    have c67b0 : decide (t325 < (y322.length : Int)) = true := decide_eq_true c67
                    clear c67
                    by_cases c68 : t325 < (y341.length : Int)
                    · rw [if_pos c68] at H
                      have c68b0 : decide (t325 < (y341.length : Int)) = true := decide_eq_true c68
                      clear c68
                      replace H := Option.bind_eq_some_iff.mp H
                      obtain ⟨t364, A690, H⟩ := H
                      replace H : (some (t364 == 0)) = some r := H
                      have A69 := Aside0.mk A690
                      clear A690
                      obtain rfl := Option.some.inj H
                      have hcz70_0 : wr.cell? ⟨gb358, 0, none⟩ = some (.int .i64 t353) := (blk_cell BK358.out 0).trans rfl
                      have hcz70_1 : wr.cell? ⟨gb358, 1, none⟩ = some (u359001) := (blk_cell BK358.out 1).trans rfl
                      have hfz70_0 := blk_frozen BK358.out 0
                      have hfz70_1 := blk_frozen BK358.out 1
                      obtain ⟨Ao71, co71, eo71⟩ := Kd.R_slice HO_359001.out
                      subst eo71
                      try go_wp2
                      have n0_ := Aside0.mk (Kd.N_drew HO_7.out)
                      have n1_ := Aside0.mk (Kd.N_drew HO_9.out)
                      have n2_ := Aside0.mk (Kd.R_drew HO_359001.out)
                      have n3_ := Aside0.mk (blk_drew BK358.out)
                      have n4_ := Aside0.mk (below_drew1 HB.out)
                      clear HO_7
                      clear HO_9
                      clear HO_359001
                      clear BK358
                      clear HB
                      have HO_7 := n0_
                      have HO_9 := n1_
                      have HO_359001 := n2_
                      have BK358 := n3_
                      have HB := n4_
                      clear n0_ n1_ n2_ n3_ n4_
                      have p362 : 0 ≤ (t325 : Int) := of_decide_eq_true (by first | (with_reducible assumption) | assumption)
                      have q362 : t325 < (y322.length : Int) := of_decide_eq_true (by first | (with_reducible assumption) | assumption)
                      obtain ⟨ad362, A362_1, c362_1, e362, hx362_0, hx362_1, hl362_1, hi362_1⟩ := at_T27 (Kd.N_reads' HO_7.out).2.2 t325 p362 q362
                      cases e362
                      obtain ⟨ce362, hce362, hMe362, hcc362⟩ := Kd.N_get HO_7.out z27 t325 p362 (by first | exact q362 | exact of_decide_eq_true (by first | (with_reducible assumption) | assumption) | (have e_ := (Kd.N_reads' HO_7.out).1; omega))
                      obtain ⟨ua362_1, uc362_1, rfl, ul362_1, ge362_1⟩ := k27_openF hMe362
                      have hv362_1 := hcc362 1 _ rfl
                      rw [add_field _ _ 1 (by omega)] at hv362_1
                      replace hv362_1 := Option.some.inj (hv362_1.symm.trans hx362_1)
                      injection hv362_1 with hva_ hvn_ hvc_
                      rw [hva_] at ge362_1
                      rw [hvc_] at ul362_1
                      have HL362_1 := Aside0.mk (show Kd.V (Kd.int .i64) 3 _ w.heap.size _ _ ((rd_T27 y322 t325).f1) from Kd.V_mk ul362_1 ge362_1)
                      clear hva_ hvn_ hvc_ ge362_1 ul362_1
                      clear hcc362 hce362
                      have HR362_1 := Aside0.mk hi362_1
                      have HC362_1 := Aside0.mk hl362_1
                      clear hi362_1 hl362_1
                      replace p362 := eq_true p362
                      replace q362 := eq_true q362
                      obtain ⟨Ao73, co73, eo73⟩ := Kd.N_slice HO_9.out
                      (first | subst eo73 | (injection eo73 with f1_ f2_ f3_; have f4_ := f1_.symm; have f5_ := f3_.symm; clear f1_ f2_ f3_; subst f4_; subst f5_))
                      have p363 : 0 ≤ (t325 : Int) := of_decide_eq_true (by first | (with_reducible assumption) | assumption)
                      have q363 : t325 < (y341.length : Int) := of_decide_eq_true (by first | (with_reducible assumption) | assumption)
                      obtain ⟨ad363, A363_1, c363_1, e363, hx363_0, hx363_1, hl363_1, hi363_1⟩ := at_T27 (Kd.N_reads' HO_9.out).2.2 t325 p363 q363
                      cases e363
                      obtain ⟨ce363, hce363, hMe363, hcc363⟩ := Kd.N_get HO_9.out z27 t325 p363 (by first | exact q363 | exact of_decide_eq_true (by first | (with_reducible assumption) | assumption) | (have e_ := (Kd.N_reads' HO_9.out).1; omega))
                      obtain ⟨ua363_1, uc363_1, rfl, ul363_1, ge363_1⟩ := k27_openF hMe363
                      have hv363_1 := hcc363 1 _ rfl
                      rw [add_field _ _ 1 (by omega)] at hv363_1
                      replace hv363_1 := Option.some.inj (hv363_1.symm.trans hx363_1)
                      injection hv363_1 with hva_ hvn_ hvc_
                      rw [hva_] at ge363_1
                      rw [hvc_] at ul363_1
                      have HL363_1 := Aside0.mk (show Kd.V (Kd.int .i64) 3 _ w.heap.size _ _ ((rd_T27 y341 t325).f1) from Kd.V_mk ul363_1 ge363_1)
                      clear hva_ hvn_ hvc_ ge363_1 ul363_1
                      clear hcc363 hce363
                      have HR363_1 := Aside0.mk hi363_1
                      have HC363_1 := Aside0.mk hl363_1
                      clear hi363_1 hl363_1
                      replace p363 := eq_true p363
                      replace q363 := eq_true q363
                      refine start_ (n := 11) (S := fun w' => w'.cell? (ad362.add ((t325).toNat * 2)) = some (.int .i64 ((rd_T27 y322 t325).f0)) ∧ w'.cell? ⟨(ad362.add ((t325).toNat * 2)).block, (ad362.add ((t325).toNat * 2)).off + 1, none⟩ = some (.slice A362_1 ((rd_T27 y322 t325).f1).length c362_1) ∧ w'.cell? (ad363.add ((t325).toNat * 2)) = some (.int .i64 ((rd_T27 y341 t325).f0)) ∧ w'.cell? ⟨(ad363.add ((t325).toNat * 2)).block, (ad363.add ((t325).toNat * 2)).off + 1, none⟩ = some (.slice A363_1 ((rd_T27 y341 t325).f1).length c363_1)) (ds := []) #[false, false, false, false, false, false, false, false, false, false, false] (by kernel_rfl) rfl rfl ⟨hx362_0, hx362_1, hx363_0, hx363_1⟩ (fun hHeld => ?_); refine with_tabW interlocutorlaw8_ActPicks.tab13 interlocutorlaw8_ActPicks.bits13 (fun HT_ HW_ => ?_)
                      generalize wr.drew = w72 at HO_7 HO_9 HO_359001 BK358 HB HL362_1 HL363_1 HR362_1 HR363_1 hx362_0 hx362_1 hx363_0 hx363_1 hHeld ⊢
                      refine pure_ (i := 0) (N := some 74) (v := ?_) (a' := ?_) #[true, false, false, false, false, false, false, false, false, false, false] rfl rfl (any_of HT_.out (by kernel_rfl)) (fun _ _ _ h => h) (Or.inl ⟨by rfl, ?_⟩) ?_ ?_
                      rotate_left
                      · intro w'
                        go_simp
                        with_reducible rfl
                      rotate_left
                      · simp only [Act.put, List.setIfInBounds_toArray, List.set_cons_zero, List.set_cons_succ, i64_w, i32_w]
                        rfl
                      refine pure_ (i := 1) (N := some 75) (v := ?_) (a' := ?_) #[true, true, false, false, false, false, false, false, false, false, false] rfl rfl (any_of HT_.out (by kernel_rfl)) (fun _ _ _ h => h) (Or.inl ⟨by rfl, ?_⟩) ?_ ?_
                      rotate_left
                      · intro w'
                        go_simp
                        with_reducible rfl
                      rotate_left
                      · simp only [Act.put, List.setIfInBounds_toArray, List.set_cons_zero, List.set_cons_succ, i64_w, i32_w]
                        rfl
                      refine pure_ (i := 2) (N := some 76) (v := ?_) (a' := ?_) #[true, true, true, false, false, false, false, false, false, false, false] rfl rfl (any_of HT_.out (by kernel_rfl)) (fun _ _ _ h => h) (Or.inl ⟨by rfl, ?_⟩) ?_ ?_
                      rotate_left
                      · intro w'
                        go_simp
                        with_reducible rfl
                      rotate_left
                      · simp only [Act.put, List.setIfInBounds_toArray, List.set_cons_zero, List.set_cons_succ, i64_w, i32_w]
                        rfl
                      refine pure_ (i := 4) (N := some 78) (v := ?_) (a' := ?_) #[true, true, true, false, true, false, false, false, false, false, false] rfl rfl (any_of HT_.out (by kernel_rfl)) (fun _ _ _ h => h) (Or.inl ⟨by rfl, ?_⟩) ?_ ?_
                      rotate_left
                      · intro w'
                        go_simp
                        with_reducible rfl
                      rotate_left
                      · simp only [Act.put, List.setIfInBounds_toArray, List.set_cons_zero, List.set_cons_succ, i64_w, i32_w]
                        rfl
                      refine pure_ (i := 5) (N := some 79) (v := ?_) (a' := ?_) #[true, true, true, false, true, true, false, false, false, false, false] rfl rfl (any_of HT_.out (by kernel_rfl)) (fun _ _ _ h => h) (Or.inl ⟨by rfl, ?_⟩) ?_ ?_
                      rotate_left
                      · intro w'
                        go_simp
                        with_reducible rfl
                      rotate_left
                      · simp only [Act.put, List.setIfInBounds_toArray, List.set_cons_zero, List.set_cons_succ, i64_w, i32_w]
                        rfl
                      refine pure_ (i := 6) (N := some 80) (v := ?_) (a' := ?_) #[true, true, true, false, true, true, true, false, false, false, false] rfl rfl (any_of HT_.out (by kernel_rfl)) (fun _ _ _ h => h) (Or.inl ⟨by rfl, ?_⟩) ?_ ?_
                      rotate_left
                      · intro w'
                        go_simp
                        with_reducible rfl
                      rotate_left
                      · simp only [Act.put, List.setIfInBounds_toArray, List.set_cons_zero, List.set_cons_succ, i64_w, i32_w]
                        rfl
                      refine take_ (i := 3) (N := some 77) (v := ?_) (a' := ?_) #[true, true, true, true, true, true, true, false, false, false, false] rfl rfl (take_ofW HT_.out HW_.out (by kernel_rfl)) (fun _ _ _ h => h) (Or.inl ⟨by rfl, ?_⟩) hHeld ?_ ?_
                      rotate_left
                      · rintro w' ⟨s0, s1, s2, s3⟩
                        go_simp
                        with_reducible rfl
                      rotate_left
                      · simp only [Act.put, List.setIfInBounds_toArray, List.set_cons_zero, List.set_cons_succ, i64_w, i32_w]
                        rfl
                      refine take_ (i := 7) (N := some 81) (v := ?_) (a' := ?_) #[true, true, true, true, true, true, true, true, false, false, false] rfl rfl (take_ofW HT_.out HW_.out (by kernel_rfl)) (fun _ _ _ h => h) (Or.inl ⟨by rfl, ?_⟩) hHeld ?_ ?_
                      rotate_left
                      · rintro w' ⟨s0, s1, s2, s3⟩
                        go_simp
                        with_reducible rfl
                      rotate_left
                      · simp only [Act.put, List.setIfInBounds_toArray, List.set_cons_zero, List.set_cons_succ, i64_w, i32_w]
                        rfl
                      refine one_ (i := 8) (N := some 82) #[true, true, true, true, true, true, true, true, true, false, false] rfl rfl (one_of HT_.out (by kernel_rfl)) (by decide) (fun K hK => ?_)
                      refine goes_ Try.func24 (by kernel_rfl) rfl #[.agg #[.int .i64 ((rd_T27 y322 t325).f0), .slice A362_1 ((rd_T27 y322 t325).f1).length c362_1], .agg #[.int .i64 ((rd_T27 y341 t325).f0), .slice A363_1 ((rd_T27 y341 t325).f1).length c363_1]] (by rfl) rfl rfl (by (try simp only [List.map_toArray, List.map_cons, List.map_nil]); first | done | rfl | (simp only [List.length_drop, List.length_take]; rfl)) ?_
                      with_reducible refine (interlocutorref10_Cmp.calls k2 ((rd_T27 y322 t325).f0) _ _ ((rd_T27 y322 t325).f1) ((rd_T27 y341 t325).f0) _ _ ((rd_T27 y341 t325).f1) t364 _ ?side1 ?side2 ?side3 ?side4 A69.out).mono ?_
                      (case side1 => repeat (first | exact (by repeat (first | (with_reducible exact HR362_1.out) | (with_reducible refine Kd.C_alloc ?_ _) | (with_reducible refine Kd.C_drewN ?_ _) | (with_reducible refine Kd.C_drew ?_) | exact HR362_1.out)) | (with_reducible refine Kd.C_alloc ?_ _) | (with_reducible refine Kd.C_drewN ?_ _) | (with_reducible refine Kd.C_drew ?_)))
                      (case side2 => exact HC362_1.out)
                      (case side3 => repeat (first | exact (by repeat (first | (with_reducible exact HR363_1.out) | (with_reducible refine Kd.C_alloc ?_ _) | (with_reducible refine Kd.C_drewN ?_ _) | (with_reducible refine Kd.C_drew ?_) | exact HR363_1.out)) | (with_reducible refine Kd.C_alloc ?_ _) | (with_reducible refine Kd.C_drewN ?_ _) | (with_reducible refine Kd.C_drew ?_)))
                      (case side4 => exact HC363_1.out)
                      rintro e w74 ⟨rfl, hb⟩
                      have HS0_ := (hb.cell (World.block_lt_of_cell? _ _ (hHeld.1))).trans (hHeld.1)
                      have HS1_ := (hb.cell (World.block_lt_of_cell? _ _ (hHeld.2.1))).trans (hHeld.2.1)
                      have HS2_ := (hb.cell (World.block_lt_of_cell? _ _ (hHeld.2.2.1))).trans (hHeld.2.2.1)
                      have HS3_ := (hb.cell (World.block_lt_of_cell? _ _ (hHeld.2.2.2))).trans (hHeld.2.2.2)
                      refine ⟨_, rfl, ?_⟩
                      have n0_ := Aside0.mk (Kd.N_below (by (with_reducible repeat (first | apply Kd.N_alloc | apply Kd.N_drewN | apply Kd.N_drew)); exact HO_7.out) hb)
                      have n1_ := Aside0.mk (Kd.N_below (by (with_reducible repeat (first | apply Kd.N_alloc | apply Kd.N_drewN | apply Kd.N_drew)); exact HO_9.out) hb)
                      have n2_ := Aside0.mk (Kd.R_below (by (with_reducible repeat (first | apply Kd.R_alloc | apply Kd.R_drewN | apply Kd.R_drew)); exact HO_359001.out) hb)
                      have n3_ := Aside0.mk (Kd.V_below (by (with_reducible repeat (first | apply Kd.V_alloc | apply Kd.V_drewN | apply Kd.V_drew)); exact HL362_1.out) hb)
                      have n4_ := Aside0.mk (Kd.V_below (by (with_reducible repeat (first | apply Kd.V_alloc | apply Kd.V_drewN | apply Kd.V_drew)); exact HL363_1.out) hb)
                      have n5_ := Aside0.mk (blk_below (g := gb358) (o := .cells #[.int .i64 t353, .slice Ao71 x359001_2.length co71] 27 (0, 0)) (by (with_reducible repeat (first | refine blk_drewN ?_ _ | refine blk_drew ?_ | refine blk_alloc ?_ _)); exact BK358.out) hb)
                      have n6_ := Aside0.mk (Kd.C_below (by repeat (first | (with_reducible exact HR362_1.out) | (with_reducible refine Kd.C_alloc ?_ _) | (with_reducible refine Kd.C_drewN ?_ _) | (with_reducible refine Kd.C_drew ?_) | exact HR362_1.out)) hb)
                      have n7_ := Aside0.mk (Kd.C_below (by repeat (first | (with_reducible exact HR363_1.out) | (with_reducible refine Kd.C_alloc ?_ _) | (with_reducible refine Kd.C_drewN ?_ _) | (with_reducible refine Kd.C_drew ?_) | exact HR363_1.out)) hb)
                      have n8_ := Aside0.mk (below_step (by repeat (first | (with_reducible first | exact HB.out | apply below_alloc | apply pw_below_drewN | apply below_drew1 | refine below_set ?_ GE358.out) | exact HB.out)) hb)
                      clear HO_7
                      clear HO_9
                      clear HO_359001
                      clear HL362_1
                      clear HL363_1
                      clear BK358
                      clear HR362_1
                      clear HR363_1
                      clear HB
                      have HO_7 := n0_
                      have HO_9 := n1_
                      have HO_359001 := n2_
                      have HL362_1 := n3_
                      have HL363_1 := n4_
                      have BK358 := n5_
                      have HR362_1 := n6_
                      have HR363_1 := n7_
                      have HB := n8_
                      clear n0_ n1_ n2_ n3_ n4_ n5_ n6_ n7_ n8_
                      (try clear hb)
                      (try clear hb2)
                      (try clear hk)
                      (try clear hi)
                      refine hK.out _ _ ⟨HS0_, HS1_, HS2_, HS3_⟩ (fun hHeld => ?_)
                      clear hK K
                      refine norm_ (a' := ?_) ?_ ?_
                      rotate_left
                      · show Act.put _ (some 82) _ = _
                        simp only [Act.put, List.setIfInBounds_toArray, List.set_cons_zero, List.set_cons_succ, i64_w, i32_w]
                        rfl
                      refine pure_ (i := 9) (N := some 83) (v := ?_) (a' := ?_) #[true, true, true, true, true, true, true, true, true, true, false] rfl rfl (any_of HT_.out (by kernel_rfl)) (fun _ _ _ h => h) (Or.inl ⟨by rfl, ?_⟩) ?_ ?_
                      rotate_left
                      · intro w'
                        go_simp
                        with_reducible rfl
                      rotate_left
                      · simp only [Act.put, List.setIfInBounds_toArray, List.set_cons_zero, List.set_cons_succ, i64_w, i32_w]
                        rfl
                      refine pure_ (i := 10) (N := some 6) (v := ?_) (a' := ?_) #[true, true, true, true, true, true, true, true, true, true, true] rfl rfl (any_of HT_.out (by kernel_rfl)) (fun _ _ _ h => h) (Or.inl ⟨by rfl, ?_⟩) ?_ ?_
                      rotate_left
                      · intro w'
                        go_simp
                        with_reducible rfl
                      rotate_left
                      · simp only [Act.put, List.setIfInBounds_toArray, List.set_cons_zero, List.set_cons_succ, i64_w, i32_w]
                        rfl
                      refine done_ (done_of HT_.out (by kernel_rfl)) ?_
                      try go_wp2
                      go_ret
                      exact ⟨by first | rfl | (simp [errW_none, errW_some] <;> rfl) | (simp [*, errW_none, errW_some] <;> rfl), by repeat (first | (with_reducible first | exact HB.out | apply below_alloc | apply pw_below_drewN | apply below_drew1 | refine below_set ?_ GE358.out) | exact HB.out)⟩
                    · rw [if_neg c68] at H
                      exact absurd H (by simp)
                  · rw [if_neg c67] at H
                    exact absurd H (by simp)
                · rw [if_neg c66] at H
                  exact absurd H (by simp)
  · replace c5 := Bool.eq_false_iff.mpr c5
    subst c5
    have H1 : (some false) = some r := by rw [if_neg (show ¬ (false = true) by decide)] at H; exact H
    clear H
    have H := H1
    clear H1
    obtain rfl := Option.some.inj H
    go_enter Try.func12, Try.ntmps12
    go_wp2_with (first | ((with_reducible refine gate_callee (f := 17) rfl ?_); refine goesL_ (some 13) rfl rfl Try.func17 (by kernel_rfl) rfl #[] rfl (by (try simp only [List.map_toArray, List.map_cons, List.map_nil]); first | done | rfl | (simp only [List.length_drop, List.length_take]; rfl)) ?_; (with_reducible refine (interlocutorlaw8_known.calls  false _ A4.out).mono ?_); rintro e w75 ⟨rfl, hb⟩; refine ⟨_, rfl, ?_⟩; have n0_ := Aside0.mk (below_step (by repeat (first | (with_reducible first | exact HB.out | apply below_alloc | apply pw_below_drewN | apply below_drew1) | exact HB.out)) hb); clear HB; have HB := n0_; clear n0_; (try clear hb); (try clear hb2); (try clear hk); (try clear hi)))
    go_ret
    exact ⟨by first | rfl | (simp [errW_none, errW_some] <;> rfl) | (simp [*, errW_none, errW_some] <;> rfl), by repeat (first | (with_reducible first | exact HB.out | apply below_alloc | apply pw_below_drewN | apply below_drew1) | exact HB.out)⟩

/-- THE ONE PURE STATEMENT of interlocutorlaw8_ActPicks: yours. -/
def interlocutorlaw8_ActPicks.Pure : Prop := ∀ (a0 : Int) (a1 : Int) (a2 : Int), (Lit.int .i64 a0).wf = true → (Lit.int .i64 a1).wf = true → (Lit.int .i64 a2).wf = true → ∃ k, interlocutorlaw8_ActPicks.f k a0 a1 a2 = some true
theorem interlocutorlaw8_ActPicks.walk (P : interlocutorlaw8_ActPicks.Pure) (a0 : Int) (a1 : Int) (a2 : Int) (w : World) (w0 : (Lit.int .i64 a0).wf = true) (w1 : (Lit.int .i64 a1).wf = true) (w2 : (Lit.int .i64 a2).wf = true) :
    Calls Try.prog 12 #[.int .i64 a0, .int .i64 a1, .int .i64 a2] w fun e w' => e = .returned (.bool true) ∧ Below w.heap.size w w' := by
  obtain ⟨k, h⟩ := P a0 a1 a2 w0 w1 w2
  refine (interlocutorlaw8_ActPicks.calls k a0 a1 a2 true w h).mono ?_
  rintro e w' ⟨rfl, hd⟩
  exact ⟨rfl, hd⟩

end Go.Proofs.Ytldfljlklfhjkaa.PPk
