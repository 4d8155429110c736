/- Each call of a function that is printed here answers what its plain Lean function answers; written by a program of this session (wip/myprint.py) over the kit's print. Conditions: that the plain function answers. -/
import Derived.Test.YtldfljlklfhjkaaPGrx0
import Derived.Test.YtldfljlklfhjkaaPGrx7
import Derived.Test.YtldfljlklfhjkaaPGrx8
namespace Go.Proofs.Ytldfljlklfhjkaa.PGr
open Go.RowKit Go.Proofs.YtldfljlklfhjkaaW.PrintWords Go.Proofs.YtldfljlklfhjkaaW.PrintLast Go.Proofs.YtldfljlklfhjkaaW.PrintMore
attribute [local go_sem] max2_int min2_int max_two min_two max_three min_three max_four min_four   -- for this text's walks alone
set_option linter.unusedVariables false
set_option linter.unusedSimpArgs false

/-! ### interlocutorlaw8_ActGroups: function 9 -/
mutual
def interlocutorlaw8_ActGroups.j1 : Nat → Int → Int → Int → List (S27) → Int → List Int → Option (Bool)
  | 0, _, _, _, _, _, _ => none
  | k + 1, x1, x2, x8, x9, x250000, x250001 => (interlocutorlaw8_Ref.f x1).bind fun bt261 => ((act_Do.f k x250000 x250001 x9 bt261.1 bt261.2.1 bt261.2.2.1 bt261.2.2.2.1 bt261.2.2.2.2.1 bt261.2.2.2.2.2).bind fun bt267 => (if bt267.2.2 = true then ((interlocutorref10_Cmp.f k bt267.1 bt267.2.1 7 (([x8, 0] : List Int))).bind fun t276 => (interlocutorlaw8_ActGroups.j2 k x1 x2 x9 (t276 != 0) x250000 x250001)) else (interlocutorlaw8_ActGroups.j2 k x1 x2 x9 true x250000 x250001)))
def interlocutorlaw8_ActGroups.j2 : Nat → Int → Int → List (S27) → Bool → Int → List Int → Option (Bool)
  | 0, _, _, _, _, _, _ => none
  | k + 1, x1, x2, x9, x87, x250000, x250001 => if x87 = true then (some false) else ((interlocutorlaw8_within.f x2 (x9.length : Int)).bind fun t277 => (if 0 ≤ t277 then (if t277 < (x9.length : Int) then (if 0 < (((rd_T27 x9 t277).f1).length : Int) then ((interlocutorlaw8_Ref.f x1).bind fun bt284 => ((act_Do.f k x250000 x250001 (x9.set (t277 : Int).toNat (⟨1, (([rd ((rd_T27 x9 t277).f1) 0, 4] : List Int))⟩ : S27)) bt284.1 bt284.2.1 bt284.2.2.1 bt284.2.2.2.1 bt284.2.2.2.2.1 bt284.2.2.2.2.2).bind fun bt290 => (some (!bt290.2.2)))) else (none)) else (none)) else (none)))
def interlocutorlaw8_ActGroups.l0 : Nat → List Int → Int → Int → Int → List (S27) → Int → Int → List Int → Option (Bool)
  | 0, _, _, _, _, _, _, _, _ => none
  | k + 1, x0, x1, x2, x8, x9, x11, x250000, x250001 => if x11 < (x0.length : Int) then (if x11 < 5 then (if 0 ≤ x11 then ((interlocutorlaw8_within.f (rd x0 x11) 1000).bind fun t251 => (if x9.length < 4398046511104 then (if x250001.length < 17592186044416 then (interlocutorlaw8_ActGroups.l0 k x0 x1 x2 (wrap64 ((wrap64 (1000 * x8)) + t251)) (x9 ++ [(⟨1, (([t251, 3] : List Int))⟩ : S27)]) (wrap64 (x11 + 1)) x250000 (x250001 ++ [wrap64 (x11 + 1)])) else (none)) else (none))) else (none)) else (interlocutorlaw8_ActGroups.j1 k x1 x2 x8 x9 x250000 x250001)) else (interlocutorlaw8_ActGroups.j1 k x1 x2 x8 x9 x250000 x250001)
end
def interlocutorlaw8_ActGroups.f (k : Nat) (l0 : List Int) (a1 : Int) (a2 : Int) : Option (Bool) := (interlocutorlaw8_known.f).bind fun t233 => (if t233 = true then ((interlocutorlaw8_within.f a1 3).bind fun t234 => ((some (([10, 100, 1000] : List Int) : List Int)).bind fun y235 => (if 0 ≤ (wrap64 ((wrap64 (1 + t234)) - 1)) then (if (wrap64 ((wrap64 (1 + t234)) - 1)) < (y235.length : Int) then ((interlocutorlaw8_within.f (wrap64 (Int.tdiv a1 3)) (rd y235 (wrap64 ((wrap64 (1 + t234)) - 1)))).bind fun t239 => (interlocutorlaw8_ActGroups.l0 k l0 a1 a2 t239 (([(⟨1, (([t239, wrap64 (1 + t234)] : List Int))⟩ : S27)] : List (S27))) 0 10 (([0] : List Int)))) else (none)) else (none)))) else (some false))
theorem interlocutorlaw8_ActGroups.mono_l : ∀ k, (∀ y0 y1 y2 y3 y4 y5, LeO (interlocutorlaw8_ActGroups.j1 k y0 y1 y2 y3 y4 y5) (interlocutorlaw8_ActGroups.j1 (k + 1) y0 y1 y2 y3 y4 y5)) ∧ (∀ y0 y1 y2 y3 y4 y5, LeO (interlocutorlaw8_ActGroups.j2 k y0 y1 y2 y3 y4 y5) (interlocutorlaw8_ActGroups.j2 (k + 1) y0 y1 y2 y3 y4 y5)) ∧ (∀ y0 y1 y2 y3 y4 y5 y6 y7, LeO (interlocutorlaw8_ActGroups.l0 k y0 y1 y2 y3 y4 y5 y6 y7) (interlocutorlaw8_ActGroups.l0 (k + 1) y0 y1 y2 y3 y4 y5 y6 y7))
  | 0 => ⟨fun _ _ _ _ _ _ r h => by simp [interlocutorlaw8_ActGroups.j1] at h, fun _ _ _ _ _ _ r h => by simp [interlocutorlaw8_ActGroups.j2] at h, fun _ _ _ _ _ _ _ _ r h => by simp [interlocutorlaw8_ActGroups.l0] at h⟩
  | k + 1 => by
    obtain ⟨ih0, ih1, ih2⟩ := interlocutorlaw8_ActGroups.mono_l k
    refine ⟨?_, ?_, ?_⟩
    · intro y0 y1 y2 y3 y4 y5
      unfold interlocutorlaw8_ActGroups.j1
      repeat' first
      | (with_reducible exact ih0 _ _ _ _ _ _)
      | (with_reducible exact ih1 _ _ _ _ _ _)
      | (with_reducible exact ih2 _ _ _ _ _ _ _ _)
      | (with_reducible exact act_Do.mono _ _ _ _ _ _ _ _ _ _)
      | (with_reducible exact interlocutorref10_Cmp.mono _ _ _ _ _)
      | (with_reducible exact LeO.refl _)
      | (with_reducible exact LeO.none _)
      | (with_reducible refine LeO.ite ?_ ?_)
      | (with_reducible refine LeO.bind ?_ (fun _ => ?_))
      | exact ih0 _ _ _ _ _ _
      | exact ih1 _ _ _ _ _ _
      | exact ih2 _ _ _ _ _ _ _ _
      | exact act_Do.mono _ _ _ _ _ _ _ _ _ _
      | exact interlocutorref10_Cmp.mono _ _ _ _ _
      | exact LeO.none _
      | refine LeO.ite ?_ ?_
      | refine LeO.bind ?_ (fun _ => ?_)
    · intro y0 y1 y2 y3 y4 y5
      unfold interlocutorlaw8_ActGroups.j2
      repeat' first
      | (with_reducible exact ih0 _ _ _ _ _ _)
      | (with_reducible exact ih1 _ _ _ _ _ _)
      | (with_reducible exact ih2 _ _ _ _ _ _ _ _)
      | (with_reducible exact act_Do.mono _ _ _ _ _ _ _ _ _ _)
      | (with_reducible exact interlocutorref10_Cmp.mono _ _ _ _ _)
      | (with_reducible exact LeO.refl _)
      | (with_reducible exact LeO.none _)
      | (with_reducible refine LeO.ite ?_ ?_)
      | (with_reducible refine LeO.bind ?_ (fun _ => ?_))
      | exact ih0 _ _ _ _ _ _
      | exact ih1 _ _ _ _ _ _
      | exact ih2 _ _ _ _ _ _ _ _
      | exact act_Do.mono _ _ _ _ _ _ _ _ _ _
      | exact interlocutorref10_Cmp.mono _ _ _ _ _
      | exact LeO.none _
      | refine LeO.ite ?_ ?_
      | refine LeO.bind ?_ (fun _ => ?_)
    · intro y0 y1 y2 y3 y4 y5 y6 y7
      unfold interlocutorlaw8_ActGroups.l0
      repeat' first
      | (with_reducible exact ih0 _ _ _ _ _ _)
      | (with_reducible exact ih1 _ _ _ _ _ _)
      | (with_reducible exact ih2 _ _ _ _ _ _ _ _)
      | (with_reducible exact act_Do.mono _ _ _ _ _ _ _ _ _ _)
      | (with_reducible exact interlocutorref10_Cmp.mono _ _ _ _ _)
      | (with_reducible exact LeO.refl _)
      | (with_reducible exact LeO.none _)
      | (with_reducible refine LeO.ite ?_ ?_)
      | (with_reducible refine LeO.bind ?_ (fun _ => ?_))
      | exact ih0 _ _ _ _ _ _
      | exact ih1 _ _ _ _ _ _
      | exact ih2 _ _ _ _ _ _ _ _
      | exact act_Do.mono _ _ _ _ _ _ _ _ _ _
      | exact interlocutorref10_Cmp.mono _ _ _ _ _
      | exact LeO.none _
      | refine LeO.ite ?_ ?_
      | refine LeO.bind ?_ (fun _ => ?_)
theorem interlocutorlaw8_ActGroups.mono : ∀ a0 a1 a2 k, LeO (interlocutorlaw8_ActGroups.f k a0 a1 a2) (interlocutorlaw8_ActGroups.f (k + 1) a0 a1 a2) := by
  intro a0 a1 a2 k
  obtain ⟨ih0, ih1, ih2⟩ := interlocutorlaw8_ActGroups.mono_l k
  unfold interlocutorlaw8_ActGroups.f
  repeat' first
      | (with_reducible exact ih0 _ _ _ _ _ _)
      | (with_reducible exact ih1 _ _ _ _ _ _)
      | (with_reducible exact ih2 _ _ _ _ _ _ _ _)
      | (with_reducible exact act_Do.mono _ _ _ _ _ _ _ _ _ _)
      | (with_reducible exact interlocutorref10_Cmp.mono _ _ _ _ _)
      | (with_reducible exact LeO.refl _)
      | (with_reducible exact LeO.none _)
      | (with_reducible refine LeO.ite ?_ ?_)
      | (with_reducible refine LeO.bind ?_ (fun _ => ?_))
      | exact ih0 _ _ _ _ _ _
      | exact ih1 _ _ _ _ _ _
      | exact ih2 _ _ _ _ _ _ _ _
      | exact act_Do.mono _ _ _ _ _ _ _ _ _ _
      | exact interlocutorref10_Cmp.mono _ _ _ _ _
      | exact LeO.none _
      | refine LeO.ite ?_ ?_
      | refine LeO.bind ?_ (fun _ => ?_)
def interlocutorlaw8_ActGroups.T14 : Bool × List (List Nat × List Nat) := (true, [([], []), ([], []), ([], []), ([2], [2]), ([0, 1, 3, 3], [0, 1, 3]), ([4], [4]), ([5], [5]), ([5], [5]), ([], []), ([8, 6, 4, 0, 1, 2, 3, 4, 5, 6, 8], [6, 8]), ([7, 9, 0, 1, 2, 3, 4, 5, 6, 7, 8, 9], [7])])
def interlocutorlaw8_ActGroups.B14 : List Nat := [0, 0, 0, 4, 15, 31, 63, 63, 0, 383, 1023]
theorem interlocutorlaw8_ActGroups.tab14 : rtab .any (opsOf Try.f9 14) = interlocutorlaw8_ActGroups.T14 := by kernel_rfl
theorem interlocutorlaw8_ActGroups.bits14 : waitsOk interlocutorlaw8_ActGroups.T14.2 interlocutorlaw8_ActGroups.B14 = true := by kernel_rfl
def interlocutorlaw8_ActGroups.T19 : Bool × List (List Nat × List Nat) := (true, [([], []), ([], []), ([], []), ([2], [2]), ([0, 1, 3, 3], [0, 1, 3]), ([4], [4]), ([5], [5]), ([5], [5]), ([], []), ([8, 6, 4, 0, 1, 2, 3, 4, 5, 6, 8], [6, 8]), ([7, 9, 0, 1, 2, 3, 4, 5, 6, 7, 8, 9], [7])])
def interlocutorlaw8_ActGroups.B19 : List Nat := [0, 0, 0, 4, 15, 31, 63, 63, 0, 383, 1023]
theorem interlocutorlaw8_ActGroups.tab19 : rtab .any (opsOf Try.f9 19) = interlocutorlaw8_ActGroups.T19 := by kernel_rfl
theorem interlocutorlaw8_ActGroups.bits19 : waitsOk interlocutorlaw8_ActGroups.T19.2 interlocutorlaw8_ActGroups.B19 = true := by kernel_rfl
set_option maxHeartbeats 8000000 in
set_option maxRecDepth 100000 in
theorem interlocutorlaw8_ActGroups.calls (k : Nat) (A0 : Option Addr) (c0 : Nat) (l0 : List Int) (a1 : Int) (a2 : Int) (r : Bool) (w : World) (hr0 : Kd.C (Kd.int .i64) w A0 l0.length l0) (hc0 : l0.length ≤ c0) (h : interlocutorlaw8_ActGroups.f k l0 a1 a2 = some r) :
    Calls Try.prog 9 #[.slice A0 l0.length c0, .int .i64 a1, .int .i64 a2] w fun e w' => e = .returned (.bool r) ∧ Below w.heap.size w w' := by
  have hu27 := Try.underlying27
  have hu30 := Try.underlying30
  have HR0 := Aside0.mk hr0
  have HC0 := Aside0.mk hc0
  clear hr0 hc0
  have HB := Aside0.mk (Below.refl w.heap.size w)
  have H : ((interlocutorlaw8_known.f).bind fun t233 => (if t233 = true then ((interlocutorlaw8_within.f a1 3).bind fun t234 => ((some (([10, 100, 1000] : List Int) : List Int)).bind fun y235 => (if 0 ≤ (wrap64 ((wrap64 (1 + t234)) - 1)) then (if (wrap64 ((wrap64 (1 + t234)) - 1)) < (y235.length : Int) then ((interlocutorlaw8_within.f (wrap64 (Int.tdiv a1 3)) (rd y235 (wrap64 ((wrap64 (1 + t234)) - 1)))).bind fun t239 => (interlocutorlaw8_ActGroups.l0 k l0 a1 a2 t239 (([(⟨1, (([t239, wrap64 (1 + t234)] : List Int))⟩ : S27)] : List (S27))) 0 10 (([0] : List Int)))) else (none)) else (none)))) else (some false))) = some r := h
  clear h
  replace H := Option.bind_eq_some_iff.mp H
  obtain ⟨t233, A40, H⟩ := H
  replace H : (if t233 = true then ((interlocutorlaw8_within.f a1 3).bind fun t234 => ((some (([10, 100, 1000] : List Int) : List Int)).bind fun y235 => (if 0 ≤ (wrap64 ((wrap64 (1 + t234)) - 1)) then (if (wrap64 ((wrap64 (1 + t234)) - 1)) < (y235.length : Int) then ((interlocutorlaw8_within.f (wrap64 (Int.tdiv a1 3)) (rd y235 (wrap64 ((wrap64 (1 + t234)) - 1)))).bind fun t239 => (interlocutorlaw8_ActGroups.l0 k l0 a1 a2 t239 (([(⟨1, (([t239, wrap64 (1 + t234)] : List Int))⟩ : S27)] : List (S27))) 0 10 (([0] : List Int)))) else (none)) else (none)))) else (some false)) = some r := H
  have A4 := Aside0.mk A40
  clear A40
  by_cases c5 : t233 = true
  · subst c5
    have H1 : ((interlocutorlaw8_within.f a1 3).bind fun t234 => ((some (([10, 100, 1000] : List Int) : List Int)).bind fun y235 => (if 0 ≤ (wrap64 ((wrap64 (1 + t234)) - 1)) then (if (wrap64 ((wrap64 (1 + t234)) - 1)) < (y235.length : Int) then ((interlocutorlaw8_within.f (wrap64 (Int.tdiv a1 3)) (rd y235 (wrap64 ((wrap64 (1 + t234)) - 1)))).bind fun t239 => (interlocutorlaw8_ActGroups.l0 k l0 a1 a2 t239 (([(⟨1, (([t239, wrap64 (1 + t234)] : List Int))⟩ : S27)] : List (S27))) 0 10 (([0] : List Int)))) else (none)) else (none)))) = some r := by rw [if_pos rfl] at H; exact H
    clear H
    have H := H1
    clear H1
    replace H := Option.bind_eq_some_iff.mp H
    obtain ⟨t234, A60, H⟩ := H
    replace H : ((some (([10, 100, 1000] : List Int) : List Int)).bind fun y235 => (if 0 ≤ (wrap64 ((wrap64 (1 + t234)) - 1)) then (if (wrap64 ((wrap64 (1 + t234)) - 1)) < (y235.length : Int) then ((interlocutorlaw8_within.f (wrap64 (Int.tdiv a1 3)) (rd y235 (wrap64 ((wrap64 (1 + t234)) - 1)))).bind fun t239 => (interlocutorlaw8_ActGroups.l0 k l0 a1 a2 t239 (([(⟨1, (([t239, wrap64 (1 + t234)] : List Int))⟩ : S27)] : List (S27))) 0 10 (([0] : List Int)))) else (none)) else (none))) = some r := H
    have A6 := Aside0.mk A60
    clear A60
    obtain ⟨y235, hy235⟩ : ∃ y_ : List Int, y_ = (([10, 100, 1000] : List Int)) := ⟨_, rfl⟩
    replace H : (if 0 ≤ (wrap64 ((wrap64 (1 + t234)) - 1)) then (if (wrap64 ((wrap64 (1 + t234)) - 1)) < (y235.length : Int) then ((interlocutorlaw8_within.f (wrap64 (Int.tdiv a1 3)) (rd y235 (wrap64 ((wrap64 (1 + t234)) - 1)))).bind fun t239 => (interlocutorlaw8_ActGroups.l0 k l0 a1 a2 t239 (([(⟨1, (([t239, wrap64 (1 + t234)] : List Int))⟩ : S27)] : List (S27))) 0 10 (([0] : List Int)))) else (none)) else (none)) = some r := by first | (rw [hy235]; with_reducible exact H) | (have H2_ := (Option.bind_some _ _).symm.trans H; rw [hy235]; with_reducible exact H2_) | (have H2_ := (Option.bind_some _ _).symm.trans H; with_reducible exact H2_) | with_reducible exact H | (rw [hy235]; exact H) | exact H
    have Ny235 := Aside0.mk hy235
    clear hy235
    obtain ⟨ji7, hji7⟩ : ∃ j_ : Int, (wrap64 ((wrap64 (1 + t234)) - 1)) = j_ := ⟨_, rfl⟩
    replace H : (if 0 ≤ (ji7) then (if (ji7) < (y235.length : Int) then ((interlocutorlaw8_within.f (wrap64 (Int.tdiv a1 3)) (rd y235 (ji7))).bind fun t239 => (interlocutorlaw8_ActGroups.l0 k l0 a1 a2 t239 (([(⟨1, (([t239, wrap64 (1 + t234)] : List Int))⟩ : S27)] : List (S27))) 0 10 (([0] : List Int)))) else (none)) else (none)) = some r := by first | (rw [hji7] at H; exact H) | (simp only [hji7] at H ⊢; exact H)
    (try rw [hji7] at A4)
    (try rw [hji7] at A6)
    have hji7w : (IntKind.i64.wrap ((wrap64 (1 + t234)) - 1)) = ji7 := (i64_w _).trans hji7
    by_cases c8 : 0 ≤ (ji7)
    · rw [if_pos c8] at H
      have c8b0 : decide (0 ≤ (ji7)) = true := decide_eq_true c8
      clear c8
      by_cases c9 : (ji7) < (y235.length : Int)
      · rw [if_pos c9] at H
        have c9b0 : decide ((ji7) < (y235.length : Int)) = true := decide_eq_true c9
        clear c9
        replace H := Option.bind_eq_some_iff.mp H
        obtain ⟨t239, A100, H⟩ := H
        replace H : (interlocutorlaw8_ActGroups.l0 k l0 a1 a2 t239 (([(⟨1, (([t239, wrap64 (1 + t234)] : List Int))⟩ : S27)] : List (S27))) 0 10 (([0] : List Int))) = some r := H
        have A10 := Aside0.mk A100
        clear A100
        obtain ⟨y240, hy240⟩ : ∃ y_ : List Int, y_ = (([t239, wrap64 (1 + t234)] : List Int)) := ⟨_, rfl⟩
        replace H : (interlocutorlaw8_ActGroups.l0 k l0 a1 a2 t239 (([(⟨1, y240⟩ : S27)] : List (S27))) 0 10 (([0] : List Int))) = some r := by first | (rw [hy240]; with_reducible exact H) | (have H2_ := (Option.bind_some _ _).symm.trans H; rw [hy240]; with_reducible exact H2_) | (have H2_ := (Option.bind_some _ _).symm.trans H; with_reducible exact H2_) | with_reducible exact H | (rw [hy240]; exact H) | exact H
        have Ny240 := Aside0.mk hy240
        clear hy240
        obtain ⟨y243, hy243⟩ : ∃ y_ : List (S27), y_ = (([(⟨1, y240⟩ : S27)] : List (S27))) := ⟨_, rfl⟩
        replace H : (interlocutorlaw8_ActGroups.l0 k l0 a1 a2 t239 y243 0 10 (([0] : List Int))) = some r := by first | (rw [hy243]; with_reducible exact H) | (have H2_ := (Option.bind_some _ _).symm.trans H; rw [hy243]; with_reducible exact H2_) | (have H2_ := (Option.bind_some _ _).symm.trans H; with_reducible exact H2_) | with_reducible exact H | (rw [hy243]; exact H) | exact H
        have Ny243 := Aside0.mk hy243
        clear hy243
        obtain ⟨y246, hy246⟩ : ∃ y_ : List Int, y_ = (([0] : List Int)) := ⟨_, rfl⟩
        replace H : (interlocutorlaw8_ActGroups.l0 k l0 a1 a2 t239 y243 0 10 y246) = some r := by first | (rw [hy246]; with_reducible exact H) | (have H2_ := (Option.bind_some _ _).symm.trans H; rw [hy246]; with_reducible exact H2_) | (have H2_ := (Option.bind_some _ _).symm.trans H; with_reducible exact H2_) | with_reducible exact H | (rw [hy246]; exact H) | exact H
        have Ny246 := Aside0.mk hy246
        clear hy246
        have HC11 := Aside0.mk H
        clear H
        go_enter Try.func9, Try.ntmps9
        go_upto_block 0 with (first | ((with_reducible refine gate_callee (f := 17) rfl ?_); refine goesL_ (some 18) rfl rfl Try.func17 (by kernel_rfl) rfl #[] rfl (by (try simp only [List.map_toArray, List.map_cons, List.map_nil]); first | done | rfl | (simp only [List.length_drop, List.length_take]; rfl)) ?_; (with_reducible refine (interlocutorlaw8_known.calls  true _ A4.out).mono ?_); rintro e w12 ⟨rfl, hb⟩; refine ⟨_, rfl, ?_⟩; have n0_ := Aside0.mk (below_step (by repeat (first | (with_reducible first | exact HB.out | apply below_alloc | apply pw_below_drewN | apply below_drew1) | exact HB.out)) hb); clear HB; have HB := n0_; clear n0_; (try clear hb); (try clear hb2); (try clear hk); (try clear hi)) | ((with_reducible refine gate_callee (f := 18) rfl ?_); refine goesL_ (some 21) rfl rfl Try.func18 (by kernel_rfl) rfl #[.int .i64 a1, .int .i64 3] rfl (by (try simp only [List.map_toArray, List.map_cons, List.map_nil]); first | done | rfl | (simp only [List.length_drop, List.length_take]; rfl)) ?_; (with_reducible refine (interlocutorlaw8_within.calls a1 3 t234 _ A6.out).mono ?_); rintro e w' ⟨rfl, ⟨nd, rfl⟩⟩; refine ⟨_, rfl, ?_⟩; (try (rw [drewN_self w12]; generalize hq_ : World.drewN w12 _ = w12; have n0_ : Aside0 (Below w.heap.size w w12) := ⟨by rw [← hq_]; exact (by repeat (first | (with_reducible first | exact HB.out | apply below_alloc | apply pw_below_drewN | apply below_drew1) | exact HB.out))⟩; clear HB hq_; have HB := n0_; clear n0_))) | ((with_reducible refine gate_dst (N := 25) rfl ?_); (try (refine gate_guard (by rfl) ?_; dsimp only)); refine Kd.R_lit (Kd.int .i64) _ 3 ?hg (N := 25) ?hd (xs := ([10, 100, 1000] : List Int)) (inner := [.int .i64 10, .int .i64 100, .int .i64 1000]) (ok := fun _ => True) (okp := fun _ => True) ?hr ?hp (fun _ hk => hk) trivial (Below.refl _ _) (Nat.le_refl _) (by simp) ?_; (case hd => rfl); (case hg => rfl); (case hr => first | (go_simp; done) | (go_simp; rfl)); (case hp => exact (Reps.one (show Kd.M (Kd.int .i64) _ _ _ 10 [.int .i64 10] from rfl) (Reps.one (show Kd.M (Kd.int .i64) _ _ _ 100 [.int .i64 100] from rfl) (Reps.one (show Kd.M (Kd.int .i64) _ _ _ 1000 [.int .i64 1000] from rfl) (Reps.none _ _))))); intro v236 w13 ho14 hb hg_ hnew_; clear hg_ hnew_; (first | rw [← Ny235.out] at ho14 | (simp only [Int.reduceToNat] at ho14; rw [← Ny235.out] at ho14)); have n0_ := Aside0.mk (Kd.R_lower ho14 (below_size (by repeat (first | (with_reducible first | exact HB.out | apply below_alloc | apply pw_below_drewN | apply below_drew1) | exact HB.out)))); have n1_ := Aside0.mk (below_step (by repeat (first | (with_reducible first | exact HB.out | apply below_alloc | apply pw_below_drewN | apply below_drew1) | exact HB.out)) hb); clear HB; have HO237 := n0_; have HB := n1_; clear n0_ n1_; clear hb ho14; obtain ⟨Ao15, co15, eo15⟩ := Kd.R_slice HO237.out; subst eo15; have p238 : 0 ≤ ((ji7) : Int) := of_decide_eq_true (by first | (with_reducible assumption) | assumption); have q238 : (ji7) < (y235.length : Int) := of_decide_eq_true (by first | (with_reducible assumption) | assumption); obtain ⟨ad238, e238, hx238_0⟩ := Kd.at_int (Kd.R_reads' HO237.out).2.2 (ji7) p238 q238; cases e238; replace p238 := eq_true p238; replace q238 := eq_true q238) | ((with_reducible refine gate_callee (f := 18) rfl ?_); refine goesL_ (some 30) rfl rfl Try.func18 (by kernel_rfl) rfl #[.int .i64 (wrap64 (Int.tdiv a1 3)), .int .i64 (rd y235 (ji7))] rfl (by (try simp only [List.map_toArray, List.map_cons, List.map_nil]); first | done | (simp only [hji7]; rfl) | rfl | (simp only [List.length_drop, List.length_take]; rfl)) ?_; (with_reducible refine (interlocutorlaw8_within.calls (wrap64 (Int.tdiv a1 3)) (rd y235 (ji7)) t239 _ A10.out).mono ?_); rintro e w' ⟨rfl, ⟨nd, rfl⟩⟩; refine ⟨_, rfl, ?_⟩; (try (rw [drewN_self w13]; generalize hq_ : World.drewN w13 _ = w13; have n0_ : Aside0 (Kd.R (Kd.int .i64) 3 w13 w.heap.size (fun _ => True) (.slice (some ad238) y235.length co15) y235) := ⟨by rw [← hq_]; exact (by (with_reducible repeat (first | apply Kd.R_alloc | apply Kd.R_drewN | apply Kd.R_drew)); exact HO237.out)⟩; have n1_ : Aside0 (Below w.heap.size w w13) := ⟨by rw [← hq_]; exact (by repeat (first | (with_reducible first | exact HB.out | apply below_alloc | apply pw_below_drewN | apply below_drew1) | exact HB.out))⟩; clear HO237 HB hq_; have HO237 := n0_; have HB := n1_; clear n0_ n1_))) | ((with_reducible refine gate_dst (N := 33) rfl ?_); (try (refine gate_guard (by rfl) ?_; dsimp only)); refine Kd.R_lit (Kd.int .i64) _ 3 ?hg (N := 33) ?hd (xs := ([t239, wrap64 (1 + t234)] : List Int)) (inner := [.int .i64 t239, .int .i64 (wrap64 (1 + t234))]) (ok := fun _ => True) (okp := fun _ => True) ?hr ?hp (fun _ hk => hk) trivial (Below.refl _ _) (Nat.le_refl _) (by simp) ?_; (case hd => rfl); (case hg => rfl); (case hr => first | (go_simp; done) | (go_simp; rfl)); (case hp => exact (Reps.one (show Kd.M (Kd.int .i64) _ _ _ t239 [.int .i64 t239] from rfl) (Reps.one (show Kd.M (Kd.int .i64) _ _ _ (wrap64 (1 + t234)) [.int .i64 (wrap64 (1 + t234))] from rfl) (Reps.none _ _)))); intro v241 w16 ho17 hb hg_ hnew_; clear hg_ hnew_; (first | rw [← Ny240.out] at ho17 | (simp only [Int.reduceToNat] at ho17; rw [← Ny240.out] at ho17)); have n0_ := Aside0.mk (Kd.R_elder' (by (with_reducible repeat (first | apply Kd.R_alloc | apply Kd.R_drewN | apply Kd.R_drew)); exact HO237.out) (Kd.R_base ho17) hb); have n1_ := Aside0.mk (Kd.R_lower (Kd.R_new' ho17 (Kd.R_lt (by (with_reducible repeat (first | apply Kd.R_alloc | apply Kd.R_drewN | apply Kd.R_drew)); exact HO237.out))) (below_size (by repeat (first | (with_reducible first | exact HB.out | apply below_alloc | apply pw_below_drewN | apply below_drew1) | exact HB.out)))); have n2_ := Aside0.mk (below_step (by repeat (first | (with_reducible first | exact HB.out | apply below_alloc | apply pw_below_drewN | apply below_drew1) | exact HB.out)) hb); clear HO237; clear HB; have HO237 := n0_; have HO242 := n1_; have HB := n2_; clear n0_ n1_ n2_; clear hb ho17; obtain ⟨Ao18, co18, eo18⟩ := Kd.R_slice HO242.out; subst eo18) | ((with_reducible refine gate_dst (N := 35) rfl ?_); (try (refine gate_guard (by rfl) ?_; dsimp only)); refine Kd.N_lit k27 _ 27 ?hg (N' := 35) ?hd (xs := ([(⟨1, y240⟩ : S27)] : List (S27))) (inner := [.int .i64 1, .slice Ao18 y240.length co18]) (ok := (fun k_ => some k_ ≠ (.slice (some ad238) y235.length co15 : Value).ownBlock)) (okp := (fun k_ => some k_ ≠ (.slice (some ad238) y235.length co15 : Value).ownBlock)) ?hr ?hp (fun _ hk => hk) ((show ∀ k_, w16.heap.size ≤ k_ → (fun k_ => some k_ ≠ (.slice (some ad238) y235.length co15 : Value).ownBlock) k_ from fun k_ hk => Kd.fresh' (Kd.R_lt (by (with_reducible repeat (first | apply Kd.R_alloc | apply Kd.R_drewN | apply Kd.R_drew)); exact HO237.out)) k_ hk) _ (Nat.le_refl _)) (Below.refl _ _) (Nat.le_refl _) (by simp) ?_; (case hd => rfl); (case hg => rfl); (case hr => first | (go_simp; done) | (go_simp; rfl)); (case hp => exact (Reps.c2 (show Kd.FK k27 _ _ (⟨1, y240⟩ : S27) [.int .i64 1, .slice Ao18 y240.length co18] from (k27_mkF _ _ (⟨1, y240⟩ : S27) (Kd.R_reads' (Kd.R_mono (ok' := (fun k_ => some k_ ≠ (.slice (some ad238) y235.length co15 : Value).ownBlock)) (HO242.out) (fun k_ hk => hk.2))).2.1 (Kd.R_F (Kd.R_mono (ok' := (fun k_ => some k_ ≠ (.slice (some ad238) y235.length co15 : Value).ownBlock)) (HO242.out) (fun k_ hk => hk.2))))) (Reps.none _ _))); intro v244 w19 ho20 hb hg_ hnew_; clear hg_ hnew_; (first | rw [← Ny243.out] at ho20 | (simp only [Int.reduceToNat] at ho20; rw [← Ny243.out] at ho20)); have n0_ := Aside0.mk (Kd.R_below (by (with_reducible repeat (first | apply Kd.R_alloc | apply Kd.R_drewN | apply Kd.R_drew)); exact HO237.out) hb); have n1_ := Aside0.mk (Kd.N_lower ho20 (below_size (by repeat (first | (with_reducible first | exact HB.out | apply below_alloc | apply pw_below_drewN | apply below_drew1) | exact HB.out)))); have n2_ := Aside0.mk (below_step (by repeat (first | (with_reducible first | exact HB.out | apply below_alloc | apply pw_below_drewN | apply below_drew1) | exact HB.out)) hb); clear HO237; clear HB; clear HO242; have HO237 := n0_; have HO245 := n1_; have HB := n2_; clear n0_ n1_ n2_; clear hb ho20) | ((with_reducible refine gate_dst (N := 36) rfl ?_); (try (refine gate_guard (by rfl) ?_; dsimp only)); refine Kd.R_lit (Kd.int .i64) _ 3 ?hg (N := 36) ?hd (xs := ([0] : List Int)) (inner := [.int .i64 0]) (ok := fun _ => True) (okp := fun _ => True) ?hr ?hp (fun _ hk => hk) trivial (Below.refl _ _) (Nat.le_refl _) (by simp) ?_; (case hd => rfl); (case hg => rfl); (case hr => first | (go_simp; done) | (go_simp; rfl)); (case hp => exact (Reps.one (show Kd.M (Kd.int .i64) _ _ _ 0 [.int .i64 0] from rfl) (Reps.none _ _))); intro v247 w21 ho22 hb hg_ hnew_; clear hg_ hnew_; (first | rw [← Ny246.out] at ho22 | (simp only [Int.reduceToNat] at ho22; rw [← Ny246.out] at ho22)); have n0_ := Aside0.mk (Kd.R_elder' (by (with_reducible repeat (first | apply Kd.R_alloc | apply Kd.R_drewN | apply Kd.R_drew)); exact HO237.out) (Kd.R_base ho22) hb); have n1_ := Aside0.mk (Kd.N_elder' (by (with_reducible repeat (first | apply Kd.N_alloc | apply Kd.N_drewN | apply Kd.N_drew)); exact HO245.out) (Kd.R_base ho22) hb); have n2_ := Aside0.mk (Kd.R_lower (Kd.R_new' ho22 (Kd.R_lt (by (with_reducible repeat (first | apply Kd.R_alloc | apply Kd.R_drewN | apply Kd.R_drew)); exact HO237.out))) (below_size (by repeat (first | (with_reducible first | exact HB.out | apply below_alloc | apply pw_below_drewN | apply below_drew1) | exact HB.out)))); have n3_ := Aside0.mk (below_step (by repeat (first | (with_reducible first | exact HB.out | apply below_alloc | apply pw_below_drewN | apply below_drew1) | exact HB.out)) hb); clear HO237; clear HO245; clear HB; have HO237 := n0_; have HO245 := n1_; have HO248 := n2_; have HB := n3_; clear n0_ n1_ n2_ n3_; clear hb ho22; obtain ⟨Ao23, co23, eo23⟩ := Kd.R_slice HO248.out; subst eo23) | ((with_reducible refine gate_dst (N := 10) rfl ?_); (try (refine gate_guard (by rfl) ?_; dsimp only)); refine box_event ?hg (N := 10) ?hd (cs := #[.int .i64 0, .slice none 0 0]) (t := 30) ?hr ?_; (case hd => rfl); (case hg => rfl); (case hr => first | (go_simp; done) | (go_simp; rfl)); intro gb249 hg w24 hbox hb; have n0_ := Aside0.mk (Kd.R_below (by (with_reducible repeat (first | apply Kd.R_alloc | apply Kd.R_drewN | apply Kd.R_drew)); exact HO237.out) hb); have n1_ := Aside0.mk (Kd.N_below (Kd.N_elderB (by (with_reducible repeat (first | apply Kd.N_alloc | apply Kd.N_drewN | apply Kd.N_drew)); exact HO245.out) gb249 (Nat.le_of_eq hg.symm)) hb); have n2_ := Aside0.mk (Kd.R_below (by (with_reducible repeat (first | apply Kd.R_alloc | apply Kd.R_drewN | apply Kd.R_drew)); exact HO248.out) hb); have n3_ := Aside0.mk (below_step (by repeat (first | (with_reducible first | exact HB.out | apply below_alloc | apply pw_below_drewN | apply below_drew1) | exact HB.out)) hb); have n4_ := Aside0.mk (hbox); have n5_ := Aside0.mk ((by rw [hg]; exact (below_size (by repeat (first | (with_reducible first | exact HB.out | apply below_alloc | apply pw_below_drewN | apply below_drew1) | exact HB.out))) : w.heap.size ≤ gb249)); have n6_ := Aside0.mk ((by rw [hg]; exact (below_size (by repeat (first | (with_reducible first | exact HB.out | apply below_alloc | apply pw_below_drewN | apply below_drew1) | exact HB.out))) : w.heap.size ≤ gb249)); clear HO237; clear HO245; clear HO248; clear HB; have HO237 := n0_; have HO245 := n1_; have HO248 := n2_; have HB := n3_; have BK249 := n4_; have GW249 := n5_; have GE249 := n6_; clear n0_ n1_ n2_ n3_ n4_ n5_ n6_; clear hb hbox hg; have hcz25_0 : w24.cell? ⟨gb249, 0, none⟩ = some (.int .i64 0) := (blk_cell BK249.out 0).trans rfl; have hcz25_1 : w24.cell? ⟨gb249, 1, none⟩ = some (.slice none 0 0) := (blk_cell BK249.out 1).trans rfl; have hfz25_0 := blk_frozen BK249.out 0; have hfz25_1 := blk_frozen BK249.out 1))
        (try simp only [Act.put, List.setIfInBounds_toArray, List.set_cons_zero, List.set_cons_succ])
        go_cut [8, 9] (fun v8 v9 wc => ∃ (kq : Nat) (x8_10 : Int) (x9_10 : List (S27)) (x250001_10 : List Int) (u250001 : Value), v8 = .int .i64 x8_10 ∧ Aside0 (interlocutorlaw8_ActGroups.j1 kq a1 a2 x8_10 x9_10 10 x250001_10 = some r) ∧ Aside0 (kq ≤ k) ∧ Aside0 (Kd.N k27 27 wc w.heap.size (fun k_ => some k_ ≠ (u250001 : Value).ownBlock ∧ k_ ≠ gb249) v9 x9_10) ∧ Aside0 (Kd.R (Kd.int .i64) 3 wc w.heap.size (fun _ => True) u250001 x250001_10) ∧ Aside0 (wc.heap[gb249]? = some (.cells #[.int .i64 10, u250001] 30 (0, 0))) ∧ Aside0 (Below w.heap.size w wc))
        case first =>
          have H := HC11.out
          clear HC11
          have H' := Aside0.mk H
          clear H
          go_wp2
          go_loopg [8, 9, 11] k (fun kq v8 v9 v11 w' => ∃ (x8_1 : Int) (x9_1 : List (S27)) (x11_1 : Int) (x250001_1 : List Int) (u250001 : Value), v8 = .int .i64 x8_1 ∧ v11 = .int .i64 x11_1 ∧ Aside0 (interlocutorlaw8_ActGroups.l0 kq l0 a1 a2 x8_1 x9_1 x11_1 10 x250001_1 = some r) ∧ Aside0 (kq ≤ k) ∧ Aside0 (Kd.N k27 27 w' w.heap.size (fun k_ => some k_ ≠ (u250001 : Value).ownBlock ∧ k_ ≠ gb249) v9 x9_1) ∧ Aside0 (Kd.R (Kd.int .i64) 3 w' w.heap.size (fun _ => True) u250001 x250001_1) ∧ Aside0 (w'.heap[gb249]? = some (.cells #[.int .i64 10, u250001] 30 (0, 0))) ∧ Aside0 (Below w.heap.size w w'))
          case atStart => exact ⟨(t239), (y243), (0), (y246), (.slice Ao23 y246.length co23), (by first | rfl | (simp; done) | (simp [*]; done)), (by first | rfl | (simp; done) | (simp [*]; done)), H', ⟨Nat.le_refl _⟩, ⟨by (with_reducible repeat (first | apply Kd.N_alloc | apply Kd.N_drewN | apply Kd.N_drew)); exact Kd.N_mono (Kd.N_far (p := ⟨gb249, 1, none⟩) (Kd.N_far (p := ⟨gb249, 0, none⟩) (Kd.N_mono HO245.out (fun k_ hk => (⟨hk, hk.2⟩ : _ ∧ k_ ≠ gb249))) (fun _ hk => hk.2) (.int .i64 10)) (fun _ hk => hk.2) (.slice Ao23 y246.length co23)) (fun _ hk => ⟨hk.1.1.2, hk.1.2⟩)⟩, ⟨by (with_reducible repeat (first | apply Kd.R_alloc | apply Kd.R_drewN | apply Kd.R_drew)); exact Kd.R_mono (Kd.R_far (p := ⟨gb249, 1, none⟩) (Kd.R_far (p := ⟨gb249, 0, none⟩) (Kd.R_types HO248.out BK249.out (by decide)) (fun _ hk => hk.2) (.int .i64 10)) (fun _ hk => hk.2) (.slice Ao23 y246.length co23)) (fun _ hk => trivial)⟩, ⟨by (with_reducible repeat (first | refine blk_drewN ?_ _ | refine blk_drew ?_ | refine blk_alloc ?_ _)); refine blk_put (cs := #[.int .i64 10, .slice none 0 0]) ?_ 1 _ rfl; (with_reducible repeat (first | refine blk_drewN ?_ _ | refine blk_drew ?_ | refine blk_alloc ?_ _)); refine blk_put (cs := #[.int .i64 0, .slice none 0 0]) ?_ 0 _ rfl; (with_reducible repeat (first | refine blk_drewN ?_ _ | refine blk_drew ?_ | refine blk_alloc ?_ _)); exact BK249.out⟩, ⟨by repeat (first | (with_reducible first | exact HB.out | apply below_alloc | apply pw_below_drewN | apply below_drew1 | refine below_set ?_ GE249.out) | exact HB.out)⟩⟩
          case round =>
            clear H'
            try clear c1
            try clear c2
            try clear p2
            try clear q2
            try clear hx2
            try clear c5
            try clear p6
            try clear c8
            try clear c8b0
            try clear c9
            try clear c9b0
            try clear c17
            try clear c18
            try clear p23
            try clear q23
            try clear hx23
            try clear hcz25_0
            try clear hcz25_1
            try clear hfz25_0
            try clear hfz25_1
            try clear hx238_0
            try clear p238
            try clear q238
            obtain ⟨x8_1, x9_1, x11_1, x250001_1, u250001, rfl, rfl, HA, HK1, HO_9, HO_250001, BK249, HB⟩ := hrel
            cases gk with
            | zero => exact absurd HA.out (by simp [interlocutorlaw8_ActGroups.l0])
            | succ k1 =>
              have H := HA.out
              clear HA
              simp only [interlocutorlaw8_ActGroups.l0] at H
              by_cases c26 : x11_1 < (l0.length : Int)
              · rw [if_pos c26] at H
                have c26b0 : decide (x11_1 < (l0.length : Int)) = true := decide_eq_true c26
                clear c26
                (first | rw [c26b0] | (simp only [i64_w, i32_w]; rw [c26b0]) | skip)
                by_cases c27 : x11_1 < 5
                · rw [if_pos c27] at H
                  have c27b0 : decide (x11_1 < 5) = true := decide_eq_true c27
                  clear c27
                  by_cases c28 : 0 ≤ x11_1
                  · rw [if_pos c28] at H
                    have c28b0 : decide (0 ≤ x11_1) = true := decide_eq_true c28
                    clear c28
                    replace H := Option.bind_eq_some_iff.mp H
                    obtain ⟨t251, A290, H⟩ := H
                    replace H : (if x9_1.length < 4398046511104 then (if x250001_1.length < 17592186044416 then (interlocutorlaw8_ActGroups.l0 k1 l0 a1 a2 (wrap64 ((wrap64 (1000 * x8_1)) + t251)) (x9_1 ++ [(⟨1, (([t251, 3] : List Int))⟩ : S27)]) (wrap64 (x11_1 + 1)) 10 (x250001_1 ++ [wrap64 (x11_1 + 1)])) else (none)) else (none)) = some r := H
                    have A29 := Aside0.mk A290
                    clear A290
                    obtain ⟨y252, hy252⟩ : ∃ y_ : List Int, y_ = (([t251, 3] : List Int)) := ⟨_, rfl⟩
                    replace H : (if x9_1.length < 4398046511104 then (if x250001_1.length < 17592186044416 then (interlocutorlaw8_ActGroups.l0 k1 l0 a1 a2 (wrap64 ((wrap64 (1000 * x8_1)) + t251)) (x9_1 ++ [(⟨1, y252⟩ : S27)]) (wrap64 (x11_1 + 1)) 10 (x250001_1 ++ [wrap64 (x11_1 + 1)])) else (none)) else (none)) = some r := by first | (rw [hy252]; with_reducible exact H) | (have H2_ := (Option.bind_some _ _).symm.trans H; rw [hy252]; with_reducible exact H2_) | (have H2_ := (Option.bind_some _ _).symm.trans H; with_reducible exact H2_) | with_reducible exact H | (rw [hy252]; exact H) | exact H
                    have Ny252 := Aside0.mk hy252
                    clear hy252
                    by_cases c30 : x9_1.length < 4398046511104
                    · rw [if_pos c30] at H
                      have LMc30 := Aside0.mk c30
                      clear c30
                      obtain ⟨y255, hy255⟩ : ∃ y_ : List (S27), y_ = (x9_1 ++ [(⟨1, y252⟩ : S27)]) := ⟨_, rfl⟩
                      replace H : (if x250001_1.length < 17592186044416 then (interlocutorlaw8_ActGroups.l0 k1 l0 a1 a2 (wrap64 ((wrap64 (1000 * x8_1)) + t251)) y255 (wrap64 (x11_1 + 1)) 10 (x250001_1 ++ [wrap64 (x11_1 + 1)])) else (none)) = some r := by first | (rw [hy255]; with_reducible exact H) | (have H2_ := (Option.bind_some _ _).symm.trans H; rw [hy255]; with_reducible exact H2_) | (have H2_ := (Option.bind_some _ _).symm.trans H; with_reducible exact H2_) | with_reducible exact H | (rw [hy255]; exact H) | exact H
                      have Ny255 := Aside0.mk hy255
                      clear hy255
                      by_cases c31 : x250001_1.length < 17592186044416
                      · rw [if_pos c31] at H
                        have LMc31 := Aside0.mk c31
                        clear c31
                        obtain ⟨y258, hy258⟩ : ∃ y_ : List Int, y_ = (x250001_1 ++ [wrap64 (x11_1 + 1)]) := ⟨_, rfl⟩
                        replace H : (interlocutorlaw8_ActGroups.l0 k1 l0 a1 a2 (wrap64 ((wrap64 (1000 * x8_1)) + t251)) y255 (wrap64 (x11_1 + 1)) 10 y258) = some r := by first | (rw [hy258]; with_reducible exact H) | (have H2_ := (Option.bind_some _ _).symm.trans H; rw [hy258]; with_reducible exact H2_) | (have H2_ := (Option.bind_some _ _).symm.trans H; with_reducible exact H2_) | with_reducible exact H | (rw [hy258]; exact H) | exact H
                        have Ny258 := Aside0.mk hy258
                        clear hy258
                        have H' := Aside0.mk H
                        clear H
                        have p250 : 0 ≤ (x11_1 : Int) := of_decide_eq_true (by first | (with_reducible assumption) | assumption)
                        have q250 : x11_1 < (l0.length : Int) := of_decide_eq_true (by first | (with_reducible assumption) | assumption)
                        obtain ⟨ad250, e250, hx250_0⟩ := Kd.at_int HR0.out x11_1 p250 q250
                        cases e250
                        replace hx250_0 := (HB.out.cell (World.block_lt_of_cell? w _ hx250_0)).trans hx250_0
                        replace p250 := eq_true p250
                        replace q250 := eq_true q250
                        go_wp2_with (first | ((with_reducible refine gate_callee (f := 18) rfl ?_); refine goesL_ (some 52) rfl rfl Try.func18 (by kernel_rfl) rfl #[.int .i64 (rd l0 x11_1), .int .i64 1000] rfl (by (try simp only [List.map_toArray, List.map_cons, List.map_nil]); first | done | rfl | (simp only [List.length_drop, List.length_take]; rfl)) ?_; (with_reducible refine (interlocutorlaw8_within.calls (rd l0 x11_1) 1000 t251 _ A29.out).mono ?_); rintro e w' ⟨rfl, ⟨nd, rfl⟩⟩; refine ⟨_, rfl, ?_⟩; (try (rw [drewN_self wr]; generalize hq_ : World.drewN wr _ = wr; have n0_ : Aside0 (Kd.R (Kd.int .i64) 3 wr w.heap.size (fun _ => True) u250001 x250001_1) := ⟨by rw [← hq_]; exact (by (with_reducible repeat (first | apply Kd.R_alloc | apply Kd.R_drewN | apply Kd.R_drew)); exact HO_250001.out)⟩; have n1_ : Aside0 (Kd.N k27 27 wr w.heap.size (fun k_ => some k_ ≠ (u250001 : Value).ownBlock ∧ k_ ≠ gb249) u9 x9_1) := ⟨by rw [← hq_]; exact (by (with_reducible repeat (first | apply Kd.N_alloc | apply Kd.N_drewN | apply Kd.N_drew)); exact HO_9.out)⟩; have n2_ : Aside0 (wr.heap[gb249]? = some (.cells #[.int .i64 10, u250001] 30 (0, 0))) := ⟨by rw [← hq_]; exact (by (with_reducible repeat (first | refine blk_drewN ?_ _ | refine blk_drew ?_ | refine blk_alloc ?_ _)); exact BK249.out)⟩; have n3_ : Aside0 (Below w.heap.size w wr) := ⟨by rw [← hq_]; exact (by repeat (first | (with_reducible first | exact HB.out | apply below_alloc | apply pw_below_drewN | apply below_drew1 | refine below_set ?_ GE249.out) | exact HB.out))⟩; clear HO_250001 HO_9 BK249 HB hq_; have HO_250001 := n0_; have HO_9 := n1_; have BK249 := n2_; have HB := n3_; clear n0_ n1_ n2_ n3_))) | ((with_reducible refine gate_dst (N := 55) rfl ?_); (try (refine gate_guard (by rfl) ?_; dsimp only)); refine Kd.R_lit (Kd.int .i64) _ 3 ?hg (N := 55) ?hd (xs := ([t251, 3] : List Int)) (inner := [.int .i64 t251, .int .i64 3]) (ok := fun _ => True) (okp := fun _ => True) ?hr ?hp (fun _ hk => hk) trivial (Below.refl _ _) (Nat.le_refl _) (by simp) ?_; (case hd => rfl); (case hg => rfl); (case hr => first | (go_simp; done) | (go_simp; rfl)); (case hp => exact (Reps.one (show Kd.M (Kd.int .i64) _ _ _ t251 [.int .i64 t251] from rfl) (Reps.one (show Kd.M (Kd.int .i64) _ _ _ 3 [.int .i64 3] from rfl) (Reps.none _ _)))); intro v253 w32 ho33 hb hg_ hnew_; clear hg_ hnew_; (first | rw [← Ny252.out] at ho33 | (simp only [Int.reduceToNat] at ho33; rw [← Ny252.out] at ho33)); have n0_ := Aside0.mk (Kd.N_elder' (by (with_reducible repeat (first | apply Kd.N_alloc | apply Kd.N_drewN | apply Kd.N_drew)); exact HO_9.out) (Kd.R_base ho33) hb); have n1_ := Aside0.mk (Kd.R_elder' (by (with_reducible repeat (first | apply Kd.R_alloc | apply Kd.R_drewN | apply Kd.R_drew)); exact HO_250001.out) (Kd.R_base ho33) hb); have n2_ := Aside0.mk (Kd.R_lower (Kd.R_new' ho33 (Kd.R_lt (by (with_reducible repeat (first | apply Kd.R_alloc | apply Kd.R_drewN | apply Kd.R_drew)); exact HO_250001.out))) (below_size (by repeat (first | (with_reducible first | exact HB.out | apply below_alloc | apply pw_below_drewN | apply below_drew1 | refine below_set ?_ GE249.out) | exact HB.out)))); have n3_ := Aside0.mk (blk_below (g := gb249) (o := .cells #[.int .i64 10, u250001] 30 (0, 0)) (by (with_reducible repeat (first | refine blk_drewN ?_ _ | refine blk_drew ?_ | refine blk_alloc ?_ _)); exact BK249.out) hb); have n4_ := Aside0.mk (below_step (by repeat (first | (with_reducible first | exact HB.out | apply below_alloc | apply pw_below_drewN | apply below_drew1 | refine below_set ?_ GE249.out) | exact HB.out)) hb); clear HO_9; clear HO_250001; clear BK249; clear HB; have HO_9 := n0_; have HO_250001 := n1_; have HO254 := n2_; have BK249 := n3_; have HB := n4_; clear n0_ n1_ n2_ n3_ n4_; clear hb ho33; obtain ⟨Ao34, co34, eo34⟩ := Kd.R_slice HO254.out; subst eo34) | ((with_reducible refine gate_builtin (b := .append) (xs := #[.tmp 53, .tmp 57]) rfl ?_); (try (refine gate_guard (by rfl) ?_; dsimp only)); at_builtin; refine Kd.N_append k27 (w0 := w) w.heap.size rfl (.tmp 53) (.tmp 57) 24 27 (.agg #[(.int .i64 0), (.slice none 0 0)]) 32 rfl Try.underlying24 info27 rfl (by decide) (by omega) u9 x9_1 (⟨1, y252⟩ : S27) [.int .i64 1, .slice Ao34 y252.length co34] (fun k_ => some k_ ≠ (u250001 : Value).ownBlock ∧ k_ ≠ gb249) (fun k_ => ((fun k_ => some k_ ≠ (u250001 : Value).ownBlock ∧ k_ ≠ gb249)) k_ ∧ some k_ ≠ (u9 : Value).ownBlock) rfl rfl ?aP (fun _ hk => hk) ?aF ?aO ?aB ?aS ?aL ?_; (case aP => exact (k27_mkF _ _ (⟨1, y252⟩ : S27) (Kd.R_reads' (Kd.R_mono (ok' := (fun k_ => ((fun k_ => some k_ ≠ (u250001 : Value).ownBlock ∧ k_ ≠ gb249)) k_ ∧ some k_ ≠ (u9 : Value).ownBlock)) (Kd.R_types (Kd.R_apart' (HO254.out) (Kd.N_typed HO_9.out) (by decide)) BK249.out (by decide)) (fun k_ hk => ⟨⟨hk.1.1.2, hk.2⟩, hk.1.2⟩))).2.1 (Kd.R_F (Kd.R_mono (ok' := (fun k_ => ((fun k_ => some k_ ≠ (u250001 : Value).ownBlock ∧ k_ ≠ gb249)) k_ ∧ some k_ ≠ (u9 : Value).ownBlock)) (Kd.R_types (Kd.R_apart' (HO254.out) (Kd.N_typed HO_9.out) (by decide)) BK249.out (by decide)) (fun k_ hk => ⟨⟨hk.1.1.2, hk.2⟩, hk.1.2⟩))))); (case aB => exact (by repeat (first | (with_reducible first | exact HB.out | apply below_alloc | apply pw_below_drewN | apply below_drew1 | refine below_set ?_ GE249.out) | exact HB.out))); (case aF => exact (fun k_ hk => ⟨Kd.fresh' (Kd.R_lt (by (with_reducible repeat (first | apply Kd.R_alloc | apply Kd.R_drewN | apply Kd.R_drew)); exact HO_250001.out)) k_ hk, Kd.freshB (g := gb249) (o := .cells #[.int .i64 10, u250001] 30 (0, 0)) (by (with_reducible repeat (first | refine blk_drewN ?_ _ | refine blk_drew ?_ | refine blk_alloc ?_ _)); exact BK249.out) k_ hk⟩)); (case aO => exact (by (with_reducible repeat (first | apply Kd.N_alloc | apply Kd.N_drewN | apply Kd.N_drew)); exact Kd.N_mono HO_9.out (fun _ hk => ⟨hk.1.1, hk.1.2⟩))); (case aS => exact (below_size (by repeat (first | (with_reducible first | exact HB.out | apply below_alloc | apply pw_below_drewN | apply below_drew1 | refine below_set ?_ GE249.out) | exact HB.out)))); (case aL => have := LMc30.out; omega); intro v256 w35 ho hb hg hat; rw [← Ny255.out] at ho; have n0_ := Aside0.mk (Kd.R_over' (by (with_reducible repeat (first | apply Kd.R_alloc | apply Kd.R_drewN | apply Kd.R_drew)); exact HO_250001.out) (Kd.N_typed (by (with_reducible repeat (first | apply Kd.N_alloc | apply Kd.N_drewN | apply Kd.N_drew)); exact HO_9.out)) (by decide) hg); have n1_ := Aside0.mk (blk_grown (g := gb249) (o := .cells #[.int .i64 10, u250001] 30 (0, 0)) (by (with_reducible repeat (first | refine blk_drewN ?_ _ | refine blk_drew ?_ | refine blk_alloc ?_ _)); exact BK249.out) hg (Kd.N_ne HO_9.out BK249.out (by decide))); have n2_ := Aside0.mk (hb); have n3_ := Aside0.mk (ho); clear HO_250001; clear BK249; clear HB; clear HO_9; clear HO254; have HO_250001 := n0_; have BK249 := n1_; have HB := n2_; have HO257 := n3_; clear n0_ n1_ n2_ n3_; clear ho hb hg hat; have hcz36_0 : w35.cell? ⟨gb249, 0, none⟩ = some (.int .i64 10) := (blk_cell BK249.out 0).trans rfl; have hcz36_1 : w35.cell? ⟨gb249, 1, none⟩ = some (u250001) := (blk_cell BK249.out 1).trans rfl; have hfz36_0 := blk_frozen BK249.out 0; have hfz36_1 := blk_frozen BK249.out 1) | ((with_reducible refine gate_builtin (b := .append) (xs := #[.tmp 60, .tmp 63]) rfl ?_); (try (refine gate_guard (by rfl) ?_; dsimp only)); at_builtin; refine Kd.R_append (Kd.int .i64) (w0 := w) w.heap.size rfl (.tmp 60) (.tmp 63) 22 3 (.int .i64 0) 8 rfl Try.underlying22 info3 rfl (by decide) (by omega) u250001 x250001_1 (wrap64 (x11_1 + 1)) [.int .i64 (wrap64 (x11_1 + 1))] (fun _ => True) (fun _ => False) rfl rfl ?aP (fun _ hk => hk.elim) ?aF ?aO ?aB ?aS ?aL ?_; (case aP => exact rfl); (case aB => exact (by repeat (first | (with_reducible first | exact HB.out | apply below_alloc | apply pw_below_drewN | apply below_drew1 | refine below_set ?_ GE249.out) | exact HB.out))); (case aF => exact (fun _ _ => trivial)); (case aO => exact (by (with_reducible repeat (first | apply Kd.R_alloc | apply Kd.R_drewN | apply Kd.R_drew)); exact Kd.R_mono HO_250001.out (fun _ hk => trivial))); (case aS => exact (below_size (by repeat (first | (with_reducible first | exact HB.out | apply below_alloc | apply pw_below_drewN | apply below_drew1 | refine below_set ?_ GE249.out) | exact HB.out)))); (case aL => have := LMc31.out; omega); intro v259 w37 ho hb hg hat; rw [← Ny258.out] at ho; have n0_ := Aside0.mk (blk_grown (g := gb249) (o := .cells #[.int .i64 10, u250001] 30 (0, 0)) (by (with_reducible repeat (first | refine blk_drewN ?_ _ | refine blk_drew ?_ | refine blk_alloc ?_ _)); exact BK249.out) hg (Kd.R_ne HO_250001.out BK249.out (by decide))); have n1_ := Aside0.mk (Kd.N_afterv (ok := (fun k_ => k_ ≠ gb249)) (by (with_reducible repeat (first | apply Kd.N_alloc | apply Kd.N_drewN | apply Kd.N_drew)); exact Kd.N_mono HO257.out (fun _ hk => ⟨hk.2, hk.1⟩)) hg hat); have n2_ := Aside0.mk (hb); have n3_ := Aside0.mk (ho); clear BK249; clear HO257; clear HB; clear HO_250001; have BK249 := n0_; have HO257 := n1_; have HB := n2_; have HO260 := n3_; clear n0_ n1_ n2_ n3_; clear ho hb hg hat; obtain ⟨Ao38, co38, eo38⟩ := Kd.R_slice HO260.out; subst eo38; have hcz39_0 : w37.cell? ⟨gb249, 0, none⟩ = some (.int .i64 10) := (blk_cell BK249.out 0).trans rfl; have hcz39_1 : w37.cell? ⟨gb249, 1, none⟩ = some (u250001) := (blk_cell BK249.out 1).trans rfl; have hfz39_0 := blk_frozen BK249.out 0; have hfz39_1 := blk_frozen BK249.out 1))
                        go_roundg k1
                        case measure => have := HK1.out; omega
                        case rel => exact ⟨(wrap64 ((wrap64 (1000 * x8_1)) + t251)), (y255), (wrap64 (x11_1 + 1)), (y258), (.slice Ao38 y258.length co38), (by first | rfl | (simp; done) | (simp [*]; done)), (by first | rfl | (simp; done) | (simp [*]; done)), H', ⟨by have := HK1.out; omega⟩, ⟨by (with_reducible repeat (first | apply Kd.N_alloc | apply Kd.N_drewN | apply Kd.N_drew)); exact Kd.N_mono (Kd.N_far (p := ⟨gb249, 1, none⟩) (Kd.N_mono HO257.out (fun k_ hk => (⟨hk, hk.1⟩ : _ ∧ k_ ≠ gb249))) (fun _ hk => hk.2) (.slice Ao38 y258.length co38)) (fun _ hk => ⟨hk.1.2, hk.1.1⟩)⟩, ⟨by (with_reducible repeat (first | apply Kd.R_alloc | apply Kd.R_drewN | apply Kd.R_drew)); exact Kd.R_mono (Kd.R_far (p := ⟨gb249, 1, none⟩) (Kd.R_types HO260.out BK249.out (by decide)) (fun _ hk => hk.2) (.slice Ao38 y258.length co38)) (fun _ hk => trivial)⟩, ⟨by (with_reducible repeat (first | refine blk_drewN ?_ _ | refine blk_drew ?_ | refine blk_alloc ?_ _)); refine blk_put (cs := #[.int .i64 10, u250001]) ?_ 1 _ rfl; (with_reducible repeat (first | refine blk_drewN ?_ _ | refine blk_drew ?_ | refine blk_alloc ?_ _)); exact BK249.out⟩, ⟨by repeat (first | (with_reducible first | exact HB.out | apply below_alloc | apply pw_below_drewN | apply below_drew1 | refine below_set ?_ GE249.out) | exact HB.out)⟩⟩
                      · rw [if_neg c31] at H
                        exact absurd H (by simp)
                    · rw [if_neg c30] at H
                      exact absurd H (by simp)
                  · rw [if_neg c28] at H
                    exact absurd H (by simp)
                · rw [if_neg c27] at H
                  have c27b0 : decide (x11_1 < 5) = false := decide_eq_false c27
                  clear c27
                  have H' := Aside0.mk H
                  clear H
                  go_wp2
                  go_meet
                  case rel => exact ⟨_, (x8_1), (x9_1), (x250001_1), (u250001), (by first | rfl | (simp; done) | (simp [*]; done)), H', ⟨by have := HK1.out; first | omega | exact Nat.le_refl _⟩, ⟨by (with_reducible repeat (first | apply Kd.N_alloc | apply Kd.N_drewN | apply Kd.N_drew)); exact HO_9.out⟩, ⟨by (with_reducible repeat (first | apply Kd.R_alloc | apply Kd.R_drewN | apply Kd.R_drew)); exact HO_250001.out⟩, ⟨by (with_reducible repeat (first | refine blk_drewN ?_ _ | refine blk_drew ?_ | refine blk_alloc ?_ _)); exact BK249.out⟩, ⟨by repeat (first | (with_reducible first | exact HB.out | apply below_alloc | apply pw_below_drewN | apply below_drew1 | refine below_set ?_ GE249.out) | exact HB.out)⟩⟩
              · rw [if_neg c26] at H
                have c26b0 : decide (x11_1 < (l0.length : Int)) = false := decide_eq_false c26
                clear c26
                (first | rw [c26b0] | (simp only [i64_w, i32_w]; rw [c26b0]) | skip)
                have H' := Aside0.mk H
                clear H
                go_wp2
                go_meet
                case rel => exact ⟨_, (x8_1), (x9_1), (x250001_1), (u250001), (by first | rfl | (simp; done) | (simp [*]; done)), H', ⟨by have := HK1.out; first | omega | exact Nat.le_refl _⟩, ⟨by (with_reducible repeat (first | apply Kd.N_alloc | apply Kd.N_drewN | apply Kd.N_drew)); exact HO_9.out⟩, ⟨by (with_reducible repeat (first | apply Kd.R_alloc | apply Kd.R_drewN | apply Kd.R_drew)); exact HO_250001.out⟩, ⟨by (with_reducible repeat (first | refine blk_drewN ?_ _ | refine blk_drew ?_ | refine blk_alloc ?_ _)); exact BK249.out⟩, ⟨by repeat (first | (with_reducible first | exact HB.out | apply below_alloc | apply pw_below_drewN | apply below_drew1 | refine below_set ?_ GE249.out) | exact HB.out)⟩⟩
        case rest =>
          clear HC11
          try clear c1
          try clear c2
          try clear p2
          try clear q2
          try clear hx2
          try clear c3
          try clear c5
          try clear p6
          try clear c8
          try clear c8b0
          try clear c9
          try clear c9b0
          try clear c17
          try clear c18
          try clear p23
          try clear q23
          try clear hx23
          try clear p25
          try clear q25
          try clear hx25
          try clear c26
          try clear c26b0
          try clear c27
          try clear c27b0
          try clear c28
          try clear c28b0
          try clear c30
          try clear c31
          try clear hcz25_0
          try clear hcz25_1
          try clear hcz36_0
          try clear hcz36_1
          try clear hcz39_0
          try clear hcz39_1
          try clear hfz25_0
          try clear hfz25_1
          try clear hfz36_0
          try clear hfz36_1
          try clear hfz39_0
          try clear hfz39_1
          try clear hx238_0
          try clear hx250_0
          try clear p2
          try clear p23
          try clear p238
          try clear p250
          try clear p6
          try clear q2
          try clear q23
          try clear q238
          try clear q250
          obtain ⟨kq, x8_10, x9_10, x250001_10, u250001, rfl, HA, HJ10, HO_9, HO_250001, BK249, HB⟩ := hcut
          cases kq with
          | zero => exact absurd HA.out (by simp [interlocutorlaw8_ActGroups.j1])
          | succ kj10 =>
            have H := HA.out
            clear HA
            simp only [interlocutorlaw8_ActGroups.j1] at H
            replace H := Option.bind_eq_some_iff.mp H
            obtain ⟨⟨t261, t262, t263, t264, t265, t266⟩, A400, H⟩ := H
            replace H : ((act_Do.f kj10 10 x250001_10 x9_10 t261 t262 t263 t264 t265 t266).bind fun bt267 => (if bt267.2.2 = true then ((interlocutorref10_Cmp.f kj10 bt267.1 bt267.2.1 7 (([x8_10, 0] : List Int))).bind fun t276 => (interlocutorlaw8_ActGroups.j2 kj10 a1 a2 x9_10 (t276 != 0) 10 x250001_10)) else (interlocutorlaw8_ActGroups.j2 kj10 a1 a2 x9_10 true 10 x250001_10))) = some r := H
            have A40 := Aside0.mk A400
            clear A400
            replace H := Option.bind_eq_some_iff.mp H
            obtain ⟨⟨t267, t268, t271⟩, A410, H⟩ := H
            replace H : (if t271 = true then ((interlocutorref10_Cmp.f kj10 t267 t268 7 (([x8_10, 0] : List Int))).bind fun t276 => (interlocutorlaw8_ActGroups.j2 kj10 a1 a2 x9_10 (t276 != 0) 10 x250001_10)) else (interlocutorlaw8_ActGroups.j2 kj10 a1 a2 x9_10 true 10 x250001_10)) = some r := H
            have A41 := Aside0.mk A410
            clear A410
            have HC42 := Aside0.mk H
            clear H
            obtain ⟨Ao43, co43, eo43⟩ := Kd.R_slice HO_250001.out
            subst eo43
            obtain ⟨Ao44, co44, eo44⟩ := Kd.N_slice HO_9.out
            subst eo44
            try go_wp2
            have n0_ := Aside0.mk (Kd.N_drew HO_9.out)
            have n1_ := Aside0.mk (Kd.R_drew HO_250001.out)
            have n2_ := Aside0.mk (blk_drew BK249.out)
            have n3_ := Aside0.mk (below_drew1 HB.out)
            clear HO_9
            clear HO_250001
            clear BK249
            clear HB
            have HO_9 := n0_
            have HO_250001 := n1_
            have BK249 := n2_
            have HB := n3_
            clear n0_ n1_ n2_ n3_
            refine start_ (n := 11) (S := fun w' => w'.cell? ⟨gb249, 0, none⟩ = some (.int .i64 10) ∧ w'.cell? ⟨gb249, 1, none⟩ = some (.slice Ao43 x250001_10.length co43)) (ds := []) #[false, false, false, false, false, false, false, false, false, false, false] (by kernel_rfl) rfl rfl ⟨(blk_cell BK249.out 0).trans rfl, (blk_cell BK249.out 1).trans rfl⟩ (fun hHeld => ?_); refine with_tabW interlocutorlaw8_ActGroups.tab14 interlocutorlaw8_ActGroups.bits14 (fun HT_ HW_ => ?_)
            generalize wc.drew = w45 at HO_9 HO_250001 BK249 HB hHeld ⊢
            refine pure_ (i := 1) (N := some 72) (v := ?_) (a' := ?_) #[false, true, false, false, false, false, false, false, false, false, false] rfl rfl (any_of HT_.out (by kernel_rfl)) (fun _ _ _ h => h) (Or.inl ⟨by rfl, ?_⟩) ?_ ?_
            rotate_left
            · intro w'
              go_simp
              with_reducible rfl
            rotate_left
            · simp only [Act.put, List.setIfInBounds_toArray, List.set_cons_zero, List.set_cons_succ, i64_w, i32_w]
              rfl
            refine pure_ (i := 2) (N := some 73) (v := ?_) (a' := ?_) #[false, true, true, false, false, false, false, false, false, false, false] rfl rfl (any_of HT_.out (by kernel_rfl)) (fun _ _ _ h => h) (Or.inl ⟨by rfl, ?_⟩) ?_ ?_
            rotate_left
            · intro w'
              go_simp
              with_reducible rfl
            rotate_left
            · simp only [Act.put, List.setIfInBounds_toArray, List.set_cons_zero, List.set_cons_succ, i64_w, i32_w]
              rfl
            refine take_ (i := 0) (N := some 71) (v := ?_) (a' := ?_) #[true, true, true, false, false, false, false, false, false, false, false] rfl rfl (take_ofW HT_.out HW_.out (by kernel_rfl)) (fun _ _ _ h => h) (Or.inl ⟨by rfl, ?_⟩) hHeld ?_ ?_
            rotate_left
            · rintro w' ⟨s0, s1⟩
              go_simp
              with_reducible rfl
            rotate_left
            · simp only [Act.put, List.setIfInBounds_toArray, List.set_cons_zero, List.set_cons_succ, i64_w, i32_w]
              rfl
            refine join_ (σ := Value × Nat) 2 #[true, true, true, true, true, true, true, true, true, false, false] (fun s_ => [(74, .agg #[.int .i64 t261, .int .i64 t262, .int .i64 t263, .int .i64 t264, .int .i64 t265, .int .i64 t266]), (75, .tuple #[.agg #[.int .i64 t267, s_.1], .bool t271]), (13, .pointer (some ⟨s_.2, 0, none⟩)), (70, .tuple #[.agg #[.int .i64 t267, s_.1], .bool t271]), (76, .agg #[.int .i64 t267, s_.1]), (77, .bool t271)]) (fun s_ w' => (w'.cell? ⟨gb249, 0, none⟩ = some (.int .i64 10) ∧ w'.cell? ⟨gb249, 1, none⟩ = some (.slice Ao43 x250001_10.length co43)) ∧ (Kd.R (Kd.int .i64) 3 w' w.heap.size (fun k_ => some k_ ≠ (.slice Ao43 x250001_10.length co43 : Value).ownBlock) s_.1 t268) ∧ (Kd.R (Kd.int .i64) 3 w' w.heap.size (fun k_ => some k_ ≠ (s_.1 : Value).ownBlock) (.slice Ao43 x250001_10.length co43) x250001_10) ∧ (Kd.N k27 27 w' w.heap.size (fun k_ => some k_ ≠ (s_.1 : Value).ownBlock ∧ some k_ ≠ (.slice Ao43 x250001_10.length co43 : Value).ownBlock ∧ k_ ≠ gb249 ∧ k_ ≠ s_.2) (.slice Ao44 x9_10.length co44) x9_10) ∧ (w'.heap[gb249]? = some (.cells #[.int .i64 10, .slice Ao43 x250001_10.length co43] 30 (0, 0))) ∧ (w'.heap[s_.2]? = some (.cells #[.int .i64 0, .slice none 0 0] 27 (0, 0))) ∧ (w.heap.size ≤ s_.2) ∧ (w.heap.size ≤ s_.2) ∧ (gb249 ≠ s_.2) ∧ (s_.2 ≠ gb249) ∧ (Below w.heap.size w w')) ?_ ?_
            rotate_left
            · intro hCont
              refine two_ (i := 3) (j := 8) (Ni := some 74) (Nj := some 13) #[true, true, true, true, false, false, false, false, false, false, false] #[true, true, true, false, false, false, false, false, true, false, false] rfl rfl rfl rfl (two_of HT_.out (by kernel_rfl)) (by decide) (by decide) (fun K hK => ?_) (fun K hK => ?_)
              · skip
                refine goes_ Try.func21 (by kernel_rfl) rfl #[.int .i64 a1] (by rfl) rfl rfl (by (try simp only [List.map_toArray, List.map_cons, List.map_nil]); first | done | rfl | (simp only [List.length_drop, List.length_take]; rfl)) ?_
                with_reducible refine (interlocutorlaw8_Ref.calls a1 t261 t262 t263 t264 t265 t266 _ A40.out).mono ?_
                rintro e w46 ⟨rfl, hb⟩
                refine ⟨_, rfl, ?_⟩
                have n0_ := Aside0.mk (Kd.N_below (by (with_reducible repeat (first | apply Kd.N_alloc | apply Kd.N_drewN | apply Kd.N_drew)); exact HO_9.out) hb)
                have n1_ := Aside0.mk (Kd.R_below (by (with_reducible repeat (first | apply Kd.R_alloc | apply Kd.R_drewN | apply Kd.R_drew)); exact HO_250001.out) hb)
                have n2_ := Aside0.mk (blk_below (g := gb249) (o := .cells #[.int .i64 10, .slice Ao43 x250001_10.length co43] 30 (0, 0)) (by (with_reducible repeat (first | refine blk_drewN ?_ _ | refine blk_drew ?_ | refine blk_alloc ?_ _)); exact BK249.out) hb)
                have n3_ := Aside0.mk (below_step (by repeat (first | (with_reducible first | exact HB.out | apply below_alloc | apply pw_below_drewN | apply below_drew1 | refine below_set ?_ GE249.out) | exact HB.out)) hb)
                clear HO_9
                clear HO_250001
                clear BK249
                clear HB
                have HO_9 := n0_
                have HO_250001 := n1_
                have BK249 := n2_
                have HB := n3_
                clear n0_ n1_ n2_ n3_
                (try clear hb)
                (try clear hb2)
                (try clear hk)
                (try clear hi)
                refine hK.out _ _ ⟨(blk_cell BK249.out 0).trans rfl, (blk_cell BK249.out 1).trans rfl⟩ (fun hHeld => ?_)
                clear hK K
                refine norm_ (a' := ?_) ?_ ?_
                rotate_left
                · show Act.put _ (some 74) _ = _
                  simp only [Act.put, List.setIfInBounds_toArray, List.set_cons_zero, List.set_cons_succ, i64_w, i32_w]
                  rfl
                refine two_ (i := 4) (j := 8) (Ni := some 75) (Nj := some 13) #[true, true, true, true, true, false, false, false, false, false, false] #[true, true, true, true, false, false, false, false, true, false, false] rfl rfl rfl rfl (two_of HT_.out (by kernel_rfl)) (by decide) (by decide) (fun K hK => ?_) (fun K hK => ?_)
                · skip
                  refine goes_ Try.func22 (by kernel_rfl) rfl #[.agg #[.int .i64 10, .slice Ao43 x250001_10.length co43], .slice Ao44 x9_10.length co44, .agg #[.int .i64 t261, .int .i64 t262, .int .i64 t263, .int .i64 t264, .int .i64 t265, .int .i64 t266]] (by rfl) rfl rfl (by (try simp only [List.map_toArray, List.map_cons, List.map_nil]); first | done | rfl | (simp only [List.length_drop, List.length_take]; rfl)) ?_
                  with_reducible refine (act_Do.calls kj10 10 _ _ x250001_10 _ _ x9_10 t261 t262 t263 t264 t265 t266 t267 t268 t271 _ ?side1 ?side2 ?side3 ?side4 A41.out).mono ?_
                  (case side1 => repeat (first | exact (Kd.R_reads' HO_250001.out).2.2 | (with_reducible refine Kd.C_alloc ?_ _) | (with_reducible refine Kd.C_drewN ?_ _) | (with_reducible refine Kd.C_drew ?_)))
                  (case side2 => exact (Kd.R_reads' HO_250001.out).2.1)
                  (case side3 => repeat (first | exact (Kd.N_reads' HO_9.out).2.2 | (with_reducible refine Kd.C_alloc ?_ _) | (with_reducible refine Kd.C_drewN ?_ _) | (with_reducible refine Kd.C_drew ?_)))
                  (case side4 => exact (Kd.N_reads' HO_9.out).2.1)
                  rintro e w47 ⟨v269, rfl, ho0, hb⟩
                  refine ⟨_, rfl, ?_⟩
                  have n0_ := Aside0.mk (Kd.N_elder' (by (with_reducible repeat (first | apply Kd.N_alloc | apply Kd.N_drewN | apply Kd.N_drew)); exact HO_9.out) (Kd.R_base ho0) hb)
                  have n1_ := Aside0.mk (Kd.R_elder' (by (with_reducible repeat (first | apply Kd.R_alloc | apply Kd.R_drewN | apply Kd.R_drew)); exact HO_250001.out) (Kd.R_base ho0) hb)
                  have n2_ := Aside0.mk (Kd.R_lower (Kd.R_new' ho0 (Kd.R_lt (by (with_reducible repeat (first | apply Kd.R_alloc | apply Kd.R_drewN | apply Kd.R_drew)); exact HO_250001.out))) (below_size (by repeat (first | (with_reducible first | exact HB.out | apply below_alloc | apply pw_below_drewN | apply below_drew1 | refine below_set ?_ GE249.out) | exact HB.out))))
                  have n3_ := Aside0.mk (blk_below (g := gb249) (o := .cells #[.int .i64 10, .slice Ao43 x250001_10.length co43] 30 (0, 0)) (by (with_reducible repeat (first | refine blk_drewN ?_ _ | refine blk_drew ?_ | refine blk_alloc ?_ _)); exact BK249.out) hb)
                  have n4_ := Aside0.mk (below_step (by repeat (first | (with_reducible first | exact HB.out | apply below_alloc | apply pw_below_drewN | apply below_drew1 | refine below_set ?_ GE249.out) | exact HB.out)) hb)
                  clear HO_9
                  clear HO_250001
                  clear BK249
                  clear HB
                  have HO_9 := n0_
                  have HO_250001 := n1_
                  have HO270 := n2_
                  have BK249 := n3_
                  have HB := n4_
                  clear n0_ n1_ n2_ n3_ n4_
                  (try clear hb)
                  (try clear hb2)
                  (try clear hk)
                  (try clear hi)
                  (try clear ho0)
                  refine hK.out _ _ ⟨(blk_cell BK249.out 0).trans rfl, (blk_cell BK249.out 1).trans rfl⟩ (fun hHeld => ?_)
                  clear hK K
                  refine norm_ (a' := ?_) ?_ ?_
                  rotate_left
                  · show Act.put _ (some 75) _ = _
                    simp only [Act.put, List.setIfInBounds_toArray, List.set_cons_zero, List.set_cons_succ, i64_w, i32_w]
                    rfl
                  refine pure_ (i := 5) (N := some 70) (v := ?_) (a' := ?_) #[true, true, true, true, true, true, false, false, false, false, false] rfl rfl (any_of HT_.out (by kernel_rfl)) (fun _ _ _ h => h) (Or.inl ⟨by rfl, ?_⟩) ?_ ?_
                  rotate_left
                  · intro w'
                    go_simp
                    with_reducible rfl
                  rotate_left
                  · simp only [Act.put, List.setIfInBounds_toArray, List.set_cons_zero, List.set_cons_succ, i64_w, i32_w]
                    rfl
                  refine pure_ (i := 6) (N := some 76) (v := ?_) (a' := ?_) #[true, true, true, true, true, true, true, false, false, false, false] rfl rfl (any_of HT_.out (by kernel_rfl)) (fun _ _ _ h => h) (Or.inl ⟨by rfl, ?_⟩) ?_ ?_
                  rotate_left
                  · intro w'
                    go_simp
                    with_reducible rfl
                  rotate_left
                  · simp only [Act.put, List.setIfInBounds_toArray, List.set_cons_zero, List.set_cons_succ, i64_w, i32_w]
                    rfl
                  refine pure_ (i := 7) (N := some 77) (v := ?_) (a' := ?_) #[true, true, true, true, true, true, true, true, false, false, false] rfl rfl (any_of HT_.out (by kernel_rfl)) (fun _ _ _ h => h) (Or.inl ⟨by rfl, ?_⟩) ?_ ?_
                  rotate_left
                  · intro w'
                    go_simp
                    with_reducible rfl
                  rotate_left
                  · simp only [Act.put, List.setIfInBounds_toArray, List.set_cons_zero, List.set_cons_succ, i64_w, i32_w]
                    rfl
                  refine one_ (i := 8) (N := some 13) #[true, true, true, true, true, true, true, true, true, false, false] rfl rfl (one_of HT_.out (by kernel_rfl)) (by decide) (fun K hK => ?_)
                  refine box_step ?hg (N := 13) ?hd (cs := #[.int .i64 0, .slice none 0 0]) (t := 27) ?hr ?_; (case hd => rfl); (case hg => rfl); (case hr => first | (go_simp; done) | (go_simp; rfl))
                  intro gb272 hg w48 hbox hb
                  have n0_ := Aside0.mk (Kd.N_below (Kd.N_elderB (by (with_reducible repeat (first | apply Kd.N_alloc | apply Kd.N_drewN | apply Kd.N_drew)); exact HO_9.out) gb272 (Nat.le_of_eq hg.symm)) hb)
                  have n1_ := Aside0.mk (Kd.R_below (by (with_reducible repeat (first | apply Kd.R_alloc | apply Kd.R_drewN | apply Kd.R_drew)); exact HO_250001.out) hb)
                  have n2_ := Aside0.mk (Kd.R_below (by (with_reducible repeat (first | apply Kd.R_alloc | apply Kd.R_drewN | apply Kd.R_drew)); exact HO270.out) hb)
                  have n3_ := Aside0.mk (blk_below (g := gb249) (o := .cells #[.int .i64 10, .slice Ao43 x250001_10.length co43] 30 (0, 0)) (by (with_reducible repeat (first | refine blk_drewN ?_ _ | refine blk_drew ?_ | refine blk_alloc ?_ _)); exact BK249.out) hb)
                  have n4_ := Aside0.mk (below_step (by repeat (first | (with_reducible first | exact HB.out | apply below_alloc | apply pw_below_drewN | apply below_drew1 | refine below_set ?_ GE249.out) | exact HB.out)) hb)
                  have n5_ := Aside0.mk (hbox)
                  have n6_ := Aside0.mk ((by rw [hg]; exact (below_size (by repeat (first | (with_reducible first | exact HB.out | apply below_alloc | apply pw_below_drewN | apply below_drew1 | refine below_set ?_ GE249.out) | exact HB.out))) : w.heap.size ≤ gb272))
                  have n7_ := Aside0.mk ((by rw [hg]; exact (below_size (by repeat (first | (with_reducible first | exact HB.out | apply below_alloc | apply pw_below_drewN | apply below_drew1 | refine below_set ?_ GE249.out) | exact HB.out))) : w.heap.size ≤ gb272))
                  have n8_ := Aside0.mk ((by rw [hg]; exact Nat.ne_of_lt (blk_lt (g := gb249) (o := .cells #[.int .i64 10, .slice Ao43 x250001_10.length co43] 30 (0, 0)) (by (with_reducible repeat (first | refine blk_drewN ?_ _ | refine blk_drew ?_ | refine blk_alloc ?_ _)); exact BK249.out)) : gb249 ≠ gb272))
                  have n9_ := Aside0.mk ((by rw [hg]; exact Nat.ne_of_gt (blk_lt (g := gb249) (o := .cells #[.int .i64 10, .slice Ao43 x250001_10.length co43] 30 (0, 0)) (by (with_reducible repeat (first | refine blk_drewN ?_ _ | refine blk_drew ?_ | refine blk_alloc ?_ _)); exact BK249.out)) : gb272 ≠ gb249))
                  clear HO_9
                  clear HO_250001
                  clear HO270
                  clear BK249
                  clear HB
                  have HO_9 := n0_
                  have HO_250001 := n1_
                  have HO270 := n2_
                  have BK249 := n3_
                  have HB := n4_
                  have BK272 := n5_
                  have GW272 := n6_
                  have GE272 := n7_
                  have NB249_272 := n8_
                  have NB272_249 := n9_
                  clear n0_ n1_ n2_ n3_ n4_ n5_ n6_ n7_ n8_ n9_
                  clear hb hbox hg
                  refine hK.out _ _ ⟨(blk_cell BK249.out 0).trans rfl, (blk_cell BK249.out 1).trans rfl⟩ (fun hHeld => ?_)
                  clear hK K
                  refine norm_ (a' := ?_) ?_ ?_
                  rotate_left
                  · show Act.put _ (some 13) _ = _
                    simp only [Act.put, List.setIfInBounds_toArray, List.set_cons_zero, List.set_cons_succ, i64_w, i32_w]
                    rfl
                  exact norm_ (by simp only [putAll, Act.put, List.setIfInBounds_toArray, List.set_cons_zero, List.set_cons_succ]) (hCont (v269, gb272) _ ⟨hHeld, (by (with_reducible repeat (first | apply Kd.R_alloc | apply Kd.R_drewN | apply Kd.R_drew)); exact Kd.R_mono HO270.out (fun _ hk => hk.2)), (by (with_reducible repeat (first | apply Kd.R_alloc | apply Kd.R_drewN | apply Kd.R_drew)); exact Kd.R_mono HO_250001.out (fun _ hk => hk.2)), (by (with_reducible repeat (first | apply Kd.N_alloc | apply Kd.N_drewN | apply Kd.N_drew)); exact Kd.N_mono HO_9.out (fun _ hk => ⟨hk.1.2, ⟨hk.1.1.1, ⟨hk.1.1.2, hk.2⟩⟩⟩)), (by (with_reducible repeat (first | refine blk_drewN ?_ _ | refine blk_drew ?_ | refine blk_alloc ?_ _)); exact BK249.out), (by (with_reducible repeat (first | refine blk_drewN ?_ _ | refine blk_drew ?_ | refine blk_alloc ?_ _)); exact BK272.out), GW272.out, GE272.out, NB249_272.out, NB272_249.out, (by repeat (first | (with_reducible first | exact HB.out | apply below_alloc | apply pw_below_drewN | apply below_drew1 | refine below_set ?_ GE249.out | refine below_set ?_ GE272.out) | exact HB.out))⟩)
                · skip
                  refine box_step ?hg (N := 13) ?hd (cs := #[.int .i64 0, .slice none 0 0]) (t := 27) ?hr ?_; (case hd => rfl); (case hg => rfl); (case hr => first | (go_simp; done) | (go_simp; rfl))
                  intro gb272 hg w47 hbox hb
                  have n0_ := Aside0.mk (Kd.N_below (Kd.N_elderB (by (with_reducible repeat (first | apply Kd.N_alloc | apply Kd.N_drewN | apply Kd.N_drew)); exact HO_9.out) gb272 (Nat.le_of_eq hg.symm)) hb)
                  have n1_ := Aside0.mk (Kd.R_below (by (with_reducible repeat (first | apply Kd.R_alloc | apply Kd.R_drewN | apply Kd.R_drew)); exact HO_250001.out) hb)
                  have n2_ := Aside0.mk (blk_below (g := gb249) (o := .cells #[.int .i64 10, .slice Ao43 x250001_10.length co43] 30 (0, 0)) (by (with_reducible repeat (first | refine blk_drewN ?_ _ | refine blk_drew ?_ | refine blk_alloc ?_ _)); exact BK249.out) hb)
                  have n3_ := Aside0.mk (below_step (by repeat (first | (with_reducible first | exact HB.out | apply below_alloc | apply pw_below_drewN | apply below_drew1 | refine below_set ?_ GE249.out) | exact HB.out)) hb)
                  have n4_ := Aside0.mk (hbox)
                  have n5_ := Aside0.mk ((by rw [hg]; exact (below_size (by repeat (first | (with_reducible first | exact HB.out | apply below_alloc | apply pw_below_drewN | apply below_drew1 | refine below_set ?_ GE249.out) | exact HB.out))) : w.heap.size ≤ gb272))
                  have n6_ := Aside0.mk ((by rw [hg]; exact (below_size (by repeat (first | (with_reducible first | exact HB.out | apply below_alloc | apply pw_below_drewN | apply below_drew1 | refine below_set ?_ GE249.out) | exact HB.out))) : w.heap.size ≤ gb272))
                  have n7_ := Aside0.mk ((by rw [hg]; exact Nat.ne_of_lt (blk_lt (g := gb249) (o := .cells #[.int .i64 10, .slice Ao43 x250001_10.length co43] 30 (0, 0)) (by (with_reducible repeat (first | refine blk_drewN ?_ _ | refine blk_drew ?_ | refine blk_alloc ?_ _)); exact BK249.out)) : gb249 ≠ gb272))
                  have n8_ := Aside0.mk ((by rw [hg]; exact Nat.ne_of_gt (blk_lt (g := gb249) (o := .cells #[.int .i64 10, .slice Ao43 x250001_10.length co43] 30 (0, 0)) (by (with_reducible repeat (first | refine blk_drewN ?_ _ | refine blk_drew ?_ | refine blk_alloc ?_ _)); exact BK249.out)) : gb272 ≠ gb249))
                  clear HO_9
                  clear HO_250001
                  clear BK249
                  clear HB
                  have HO_9 := n0_
                  have HO_250001 := n1_
                  have BK249 := n2_
                  have HB := n3_
                  have BK272 := n4_
                  have GW272 := n5_
                  have GE272 := n6_
                  have NB249_272 := n7_
                  have NB272_249 := n8_
                  clear n0_ n1_ n2_ n3_ n4_ n5_ n6_ n7_ n8_
                  clear hb hbox hg
                  refine hK.out _ _ ⟨(blk_cell BK249.out 0).trans rfl, (blk_cell BK249.out 1).trans rfl⟩ (fun hHeld => ?_)
                  clear hK K
                  refine norm_ (a' := ?_) ?_ ?_
                  rotate_left
                  · show Act.put _ (some 13) _ = _
                    simp only [Act.put, List.setIfInBounds_toArray, List.set_cons_zero, List.set_cons_succ, i64_w, i32_w]
                    rfl
                  refine one_ (i := 4) (N := some 75) #[true, true, true, true, true, false, false, false, true, false, false] rfl rfl (one_of HT_.out (by kernel_rfl)) (by decide) (fun K hK => ?_)
                  refine goes_ Try.func22 (by kernel_rfl) rfl #[.agg #[.int .i64 10, .slice Ao43 x250001_10.length co43], .slice Ao44 x9_10.length co44, .agg #[.int .i64 t261, .int .i64 t262, .int .i64 t263, .int .i64 t264, .int .i64 t265, .int .i64 t266]] (by rfl) rfl rfl (by (try simp only [List.map_toArray, List.map_cons, List.map_nil]); first | done | rfl | (simp only [List.length_drop, List.length_take]; rfl)) ?_
                  with_reducible refine (act_Do.calls kj10 10 _ _ x250001_10 _ _ x9_10 t261 t262 t263 t264 t265 t266 t267 t268 t271 _ ?side1 ?side2 ?side3 ?side4 A41.out).mono ?_
                  (case side1 => repeat (first | exact (Kd.R_reads' HO_250001.out).2.2 | (with_reducible refine Kd.C_alloc ?_ _) | (with_reducible refine Kd.C_drewN ?_ _) | (with_reducible refine Kd.C_drew ?_)))
                  (case side2 => exact (Kd.R_reads' HO_250001.out).2.1)
                  (case side3 => repeat (first | exact (Kd.N_reads' HO_9.out).2.2 | (with_reducible refine Kd.C_alloc ?_ _) | (with_reducible refine Kd.C_drewN ?_ _) | (with_reducible refine Kd.C_drew ?_)))
                  (case side4 => exact (Kd.N_reads' HO_9.out).2.1)
                  rintro e w48 ⟨v269, rfl, ho0, hb⟩
                  refine ⟨_, rfl, ?_⟩
                  have n0_ := Aside0.mk (Kd.N_elder' (by (with_reducible repeat (first | apply Kd.N_alloc | apply Kd.N_drewN | apply Kd.N_drew)); exact HO_9.out) (Kd.R_base ho0) hb)
                  have n1_ := Aside0.mk (Kd.R_elder' (by (with_reducible repeat (first | apply Kd.R_alloc | apply Kd.R_drewN | apply Kd.R_drew)); exact HO_250001.out) (Kd.R_base ho0) hb)
                  have n2_ := Aside0.mk (Kd.R_lower (Kd.R_new' ho0 (Kd.R_lt (by (with_reducible repeat (first | apply Kd.R_alloc | apply Kd.R_drewN | apply Kd.R_drew)); exact HO_250001.out))) (below_size (by repeat (first | (with_reducible first | exact HB.out | apply below_alloc | apply pw_below_drewN | apply below_drew1 | refine below_set ?_ GE249.out | refine below_set ?_ GE272.out) | exact HB.out))))
                  have n3_ := Aside0.mk (blk_below (g := gb249) (o := .cells #[.int .i64 10, .slice Ao43 x250001_10.length co43] 30 (0, 0)) (by (with_reducible repeat (first | refine blk_drewN ?_ _ | refine blk_drew ?_ | refine blk_alloc ?_ _)); exact BK249.out) hb)
                  have n4_ := Aside0.mk (blk_below (g := gb272) (o := .cells #[.int .i64 0, .slice none 0 0] 27 (0, 0)) (by (with_reducible repeat (first | refine blk_drewN ?_ _ | refine blk_drew ?_ | refine blk_alloc ?_ _)); exact BK272.out) hb)
                  have n5_ := Aside0.mk (below_step (by repeat (first | (with_reducible first | exact HB.out | apply below_alloc | apply pw_below_drewN | apply below_drew1 | refine below_set ?_ GE249.out | refine below_set ?_ GE272.out) | exact HB.out)) hb)
                  clear HO_9
                  clear HO_250001
                  clear BK249
                  clear BK272
                  clear HB
                  have HO_9 := n0_
                  have HO_250001 := n1_
                  have HO270 := n2_
                  have BK249 := n3_
                  have BK272 := n4_
                  have HB := n5_
                  clear n0_ n1_ n2_ n3_ n4_ n5_
                  (try clear hb)
                  (try clear hb2)
                  (try clear hk)
                  (try clear hi)
                  (try clear ho0)
                  refine hK.out _ _ ⟨(blk_cell BK249.out 0).trans rfl, (blk_cell BK249.out 1).trans rfl⟩ (fun hHeld => ?_)
                  clear hK K
                  refine norm_ (a' := ?_) ?_ ?_
                  rotate_left
                  · show Act.put _ (some 75) _ = _
                    simp only [Act.put, List.setIfInBounds_toArray, List.set_cons_zero, List.set_cons_succ, i64_w, i32_w]
                    rfl
                  refine pure_ (i := 5) (N := some 70) (v := ?_) (a' := ?_) #[true, true, true, true, true, true, false, false, true, false, false] rfl rfl (any_of HT_.out (by kernel_rfl)) (fun _ _ _ h => h) (Or.inl ⟨by rfl, ?_⟩) ?_ ?_
                  rotate_left
                  · intro w'
                    go_simp
                    with_reducible rfl
                  rotate_left
                  · simp only [Act.put, List.setIfInBounds_toArray, List.set_cons_zero, List.set_cons_succ, i64_w, i32_w]
                    rfl
                  refine pure_ (i := 6) (N := some 76) (v := ?_) (a' := ?_) #[true, true, true, true, true, true, true, false, true, false, false] rfl rfl (any_of HT_.out (by kernel_rfl)) (fun _ _ _ h => h) (Or.inl ⟨by rfl, ?_⟩) ?_ ?_
                  rotate_left
                  · intro w'
                    go_simp
                    with_reducible rfl
                  rotate_left
                  · simp only [Act.put, List.setIfInBounds_toArray, List.set_cons_zero, List.set_cons_succ, i64_w, i32_w]
                    rfl
                  refine pure_ (i := 7) (N := some 77) (v := ?_) (a' := ?_) #[true, true, true, true, true, true, true, true, true, false, false] rfl rfl (any_of HT_.out (by kernel_rfl)) (fun _ _ _ h => h) (Or.inl ⟨by rfl, ?_⟩) ?_ ?_
                  rotate_left
                  · intro w'
                    go_simp
                    with_reducible rfl
                  rotate_left
                  · simp only [Act.put, List.setIfInBounds_toArray, List.set_cons_zero, List.set_cons_succ, i64_w, i32_w]
                    rfl
                  exact norm_ (by simp only [putAll, Act.put, List.setIfInBounds_toArray, List.set_cons_zero, List.set_cons_succ]) (hCont (v269, gb272) _ ⟨hHeld, (by (with_reducible repeat (first | apply Kd.R_alloc | apply Kd.R_drewN | apply Kd.R_drew)); exact Kd.R_mono HO270.out (fun _ hk => hk.2)), (by (with_reducible repeat (first | apply Kd.R_alloc | apply Kd.R_drewN | apply Kd.R_drew)); exact Kd.R_mono HO_250001.out (fun _ hk => hk.2)), (by (with_reducible repeat (first | apply Kd.N_alloc | apply Kd.N_drewN | apply Kd.N_drew)); exact Kd.N_mono HO_9.out (fun _ hk => ⟨hk.2, ⟨hk.1.1.1, ⟨hk.1.1.2, hk.1.2⟩⟩⟩)), (by (with_reducible repeat (first | refine blk_drewN ?_ _ | refine blk_drew ?_ | refine blk_alloc ?_ _)); exact BK249.out), (by (with_reducible repeat (first | refine blk_drewN ?_ _ | refine blk_drew ?_ | refine blk_alloc ?_ _)); exact BK272.out), GW272.out, GE272.out, NB249_272.out, NB272_249.out, (by repeat (first | (with_reducible first | exact HB.out | apply below_alloc | apply pw_below_drewN | apply below_drew1 | refine below_set ?_ GE249.out | refine below_set ?_ GE272.out) | exact HB.out))⟩)
              · skip
                refine box_step ?hg (N := 13) ?hd (cs := #[.int .i64 0, .slice none 0 0]) (t := 27) ?hr ?_; (case hd => rfl); (case hg => rfl); (case hr => first | (go_simp; done) | (go_simp; rfl))
                intro gb272 hg w46 hbox hb
                have n0_ := Aside0.mk (Kd.N_below (Kd.N_elderB (by (with_reducible repeat (first | apply Kd.N_alloc | apply Kd.N_drewN | apply Kd.N_drew)); exact HO_9.out) gb272 (Nat.le_of_eq hg.symm)) hb)
                have n1_ := Aside0.mk (Kd.R_below (by (with_reducible repeat (first | apply Kd.R_alloc | apply Kd.R_drewN | apply Kd.R_drew)); exact HO_250001.out) hb)
                have n2_ := Aside0.mk (blk_below (g := gb249) (o := .cells #[.int .i64 10, .slice Ao43 x250001_10.length co43] 30 (0, 0)) (by (with_reducible repeat (first | refine blk_drewN ?_ _ | refine blk_drew ?_ | refine blk_alloc ?_ _)); exact BK249.out) hb)
                have n3_ := Aside0.mk (below_step (by repeat (first | (with_reducible first | exact HB.out | apply below_alloc | apply pw_below_drewN | apply below_drew1 | refine below_set ?_ GE249.out) | exact HB.out)) hb)
                have n4_ := Aside0.mk (hbox)
                have n5_ := Aside0.mk ((by rw [hg]; exact (below_size (by repeat (first | (with_reducible first | exact HB.out | apply below_alloc | apply pw_below_drewN | apply below_drew1 | refine below_set ?_ GE249.out) | exact HB.out))) : w.heap.size ≤ gb272))
                have n6_ := Aside0.mk ((by rw [hg]; exact (below_size (by repeat (first | (with_reducible first | exact HB.out | apply below_alloc | apply pw_below_drewN | apply below_drew1 | refine below_set ?_ GE249.out) | exact HB.out))) : w.heap.size ≤ gb272))
                have n7_ := Aside0.mk ((by rw [hg]; exact Nat.ne_of_lt (blk_lt (g := gb249) (o := .cells #[.int .i64 10, .slice Ao43 x250001_10.length co43] 30 (0, 0)) (by (with_reducible repeat (first | refine blk_drewN ?_ _ | refine blk_drew ?_ | refine blk_alloc ?_ _)); exact BK249.out)) : gb249 ≠ gb272))
                have n8_ := Aside0.mk ((by rw [hg]; exact Nat.ne_of_gt (blk_lt (g := gb249) (o := .cells #[.int .i64 10, .slice Ao43 x250001_10.length co43] 30 (0, 0)) (by (with_reducible repeat (first | refine blk_drewN ?_ _ | refine blk_drew ?_ | refine blk_alloc ?_ _)); exact BK249.out)) : gb272 ≠ gb249))
                clear HO_9
                clear HO_250001
                clear BK249
                clear HB
                have HO_9 := n0_
                have HO_250001 := n1_
                have BK249 := n2_
                have HB := n3_
                have BK272 := n4_
                have GW272 := n5_
                have GE272 := n6_
                have NB249_272 := n7_
                have NB272_249 := n8_
                clear n0_ n1_ n2_ n3_ n4_ n5_ n6_ n7_ n8_
                clear hb hbox hg
                refine hK.out _ _ ⟨(blk_cell BK249.out 0).trans rfl, (blk_cell BK249.out 1).trans rfl⟩ (fun hHeld => ?_)
                clear hK K
                refine norm_ (a' := ?_) ?_ ?_
                rotate_left
                · show Act.put _ (some 13) _ = _
                  simp only [Act.put, List.setIfInBounds_toArray, List.set_cons_zero, List.set_cons_succ, i64_w, i32_w]
                  rfl
                refine one_ (i := 3) (N := some 74) #[true, true, true, true, false, false, false, false, true, false, false] rfl rfl (one_of HT_.out (by kernel_rfl)) (by decide) (fun K hK => ?_)
                refine goes_ Try.func21 (by kernel_rfl) rfl #[.int .i64 a1] (by rfl) rfl rfl (by (try simp only [List.map_toArray, List.map_cons, List.map_nil]); first | done | rfl | (simp only [List.length_drop, List.length_take]; rfl)) ?_
                with_reducible refine (interlocutorlaw8_Ref.calls a1 t261 t262 t263 t264 t265 t266 _ A40.out).mono ?_
                rintro e w47 ⟨rfl, hb⟩
                refine ⟨_, rfl, ?_⟩
                have n0_ := Aside0.mk (Kd.N_below (by (with_reducible repeat (first | apply Kd.N_alloc | apply Kd.N_drewN | apply Kd.N_drew)); exact HO_9.out) hb)
                have n1_ := Aside0.mk (Kd.R_below (by (with_reducible repeat (first | apply Kd.R_alloc | apply Kd.R_drewN | apply Kd.R_drew)); exact HO_250001.out) hb)
                have n2_ := Aside0.mk (blk_below (g := gb249) (o := .cells #[.int .i64 10, .slice Ao43 x250001_10.length co43] 30 (0, 0)) (by (with_reducible repeat (first | refine blk_drewN ?_ _ | refine blk_drew ?_ | refine blk_alloc ?_ _)); exact BK249.out) hb)
                have n3_ := Aside0.mk (blk_below (g := gb272) (o := .cells #[.int .i64 0, .slice none 0 0] 27 (0, 0)) (by (with_reducible repeat (first | refine blk_drewN ?_ _ | refine blk_drew ?_ | refine blk_alloc ?_ _)); exact BK272.out) hb)
                have n4_ := Aside0.mk (below_step (by repeat (first | (with_reducible first | exact HB.out | apply below_alloc | apply pw_below_drewN | apply below_drew1 | refine below_set ?_ GE249.out | refine below_set ?_ GE272.out) | exact HB.out)) hb)
                clear HO_9
                clear HO_250001
                clear BK249
                clear BK272
                clear HB
                have HO_9 := n0_
                have HO_250001 := n1_
                have BK249 := n2_
                have BK272 := n3_
                have HB := n4_
                clear n0_ n1_ n2_ n3_ n4_
                (try clear hb)
                (try clear hb2)
                (try clear hk)
                (try clear hi)
                refine hK.out _ _ ⟨(blk_cell BK249.out 0).trans rfl, (blk_cell BK249.out 1).trans rfl⟩ (fun hHeld => ?_)
                clear hK K
                refine norm_ (a' := ?_) ?_ ?_
                rotate_left
                · show Act.put _ (some 74) _ = _
                  simp only [Act.put, List.setIfInBounds_toArray, List.set_cons_zero, List.set_cons_succ, i64_w, i32_w]
                  rfl
                refine one_ (i := 4) (N := some 75) #[true, true, true, true, true, false, false, false, true, false, false] rfl rfl (one_of HT_.out (by kernel_rfl)) (by decide) (fun K hK => ?_)
                refine goes_ Try.func22 (by kernel_rfl) rfl #[.agg #[.int .i64 10, .slice Ao43 x250001_10.length co43], .slice Ao44 x9_10.length co44, .agg #[.int .i64 t261, .int .i64 t262, .int .i64 t263, .int .i64 t264, .int .i64 t265, .int .i64 t266]] (by rfl) rfl rfl (by (try simp only [List.map_toArray, List.map_cons, List.map_nil]); first | done | rfl | (simp only [List.length_drop, List.length_take]; rfl)) ?_
                with_reducible refine (act_Do.calls kj10 10 _ _ x250001_10 _ _ x9_10 t261 t262 t263 t264 t265 t266 t267 t268 t271 _ ?side1 ?side2 ?side3 ?side4 A41.out).mono ?_
                (case side1 => repeat (first | exact (Kd.R_reads' HO_250001.out).2.2 | (with_reducible refine Kd.C_alloc ?_ _) | (with_reducible refine Kd.C_drewN ?_ _) | (with_reducible refine Kd.C_drew ?_)))
                (case side2 => exact (Kd.R_reads' HO_250001.out).2.1)
                (case side3 => repeat (first | exact (Kd.N_reads' HO_9.out).2.2 | (with_reducible refine Kd.C_alloc ?_ _) | (with_reducible refine Kd.C_drewN ?_ _) | (with_reducible refine Kd.C_drew ?_)))
                (case side4 => exact (Kd.N_reads' HO_9.out).2.1)
                rintro e w48 ⟨v269, rfl, ho0, hb⟩
                refine ⟨_, rfl, ?_⟩
                have n0_ := Aside0.mk (Kd.N_elder' (by (with_reducible repeat (first | apply Kd.N_alloc | apply Kd.N_drewN | apply Kd.N_drew)); exact HO_9.out) (Kd.R_base ho0) hb)
                have n1_ := Aside0.mk (Kd.R_elder' (by (with_reducible repeat (first | apply Kd.R_alloc | apply Kd.R_drewN | apply Kd.R_drew)); exact HO_250001.out) (Kd.R_base ho0) hb)
                have n2_ := Aside0.mk (Kd.R_lower (Kd.R_new' ho0 (Kd.R_lt (by (with_reducible repeat (first | apply Kd.R_alloc | apply Kd.R_drewN | apply Kd.R_drew)); exact HO_250001.out))) (below_size (by repeat (first | (with_reducible first | exact HB.out | apply below_alloc | apply pw_below_drewN | apply below_drew1 | refine below_set ?_ GE249.out | refine below_set ?_ GE272.out) | exact HB.out))))
                have n3_ := Aside0.mk (blk_below (g := gb249) (o := .cells #[.int .i64 10, .slice Ao43 x250001_10.length co43] 30 (0, 0)) (by (with_reducible repeat (first | refine blk_drewN ?_ _ | refine blk_drew ?_ | refine blk_alloc ?_ _)); exact BK249.out) hb)
                have n4_ := Aside0.mk (blk_below (g := gb272) (o := .cells #[.int .i64 0, .slice none 0 0] 27 (0, 0)) (by (with_reducible repeat (first | refine blk_drewN ?_ _ | refine blk_drew ?_ | refine blk_alloc ?_ _)); exact BK272.out) hb)
                have n5_ := Aside0.mk (below_step (by repeat (first | (with_reducible first | exact HB.out | apply below_alloc | apply pw_below_drewN | apply below_drew1 | refine below_set ?_ GE249.out | refine below_set ?_ GE272.out) | exact HB.out)) hb)
                clear HO_9
                clear HO_250001
                clear BK249
                clear BK272
                clear HB
                have HO_9 := n0_
                have HO_250001 := n1_
                have HO270 := n2_
                have BK249 := n3_
                have BK272 := n4_
                have HB := n5_
                clear n0_ n1_ n2_ n3_ n4_ n5_
                (try clear hb)
                (try clear hb2)
                (try clear hk)
                (try clear hi)
                (try clear ho0)
                refine hK.out _ _ ⟨(blk_cell BK249.out 0).trans rfl, (blk_cell BK249.out 1).trans rfl⟩ (fun hHeld => ?_)
                clear hK K
                refine norm_ (a' := ?_) ?_ ?_
                rotate_left
                · show Act.put _ (some 75) _ = _
                  simp only [Act.put, List.setIfInBounds_toArray, List.set_cons_zero, List.set_cons_succ, i64_w, i32_w]
                  rfl
                refine pure_ (i := 5) (N := some 70) (v := ?_) (a' := ?_) #[true, true, true, true, true, true, false, false, true, false, false] rfl rfl (any_of HT_.out (by kernel_rfl)) (fun _ _ _ h => h) (Or.inl ⟨by rfl, ?_⟩) ?_ ?_
                rotate_left
                · intro w'
                  go_simp
                  with_reducible rfl
                rotate_left
                · simp only [Act.put, List.setIfInBounds_toArray, List.set_cons_zero, List.set_cons_succ, i64_w, i32_w]
                  rfl
                refine pure_ (i := 6) (N := some 76) (v := ?_) (a' := ?_) #[true, true, true, true, true, true, true, false, true, false, false] rfl rfl (any_of HT_.out (by kernel_rfl)) (fun _ _ _ h => h) (Or.inl ⟨by rfl, ?_⟩) ?_ ?_
                rotate_left
                · intro w'
                  go_simp
                  with_reducible rfl
                rotate_left
                · simp only [Act.put, List.setIfInBounds_toArray, List.set_cons_zero, List.set_cons_succ, i64_w, i32_w]
                  rfl
                refine pure_ (i := 7) (N := some 77) (v := ?_) (a' := ?_) #[true, true, true, true, true, true, true, true, true, false, false] rfl rfl (any_of HT_.out (by kernel_rfl)) (fun _ _ _ h => h) (Or.inl ⟨by rfl, ?_⟩) ?_ ?_
                rotate_left
                · intro w'
                  go_simp
                  with_reducible rfl
                rotate_left
                · simp only [Act.put, List.setIfInBounds_toArray, List.set_cons_zero, List.set_cons_succ, i64_w, i32_w]
                  rfl
                exact norm_ (by simp only [putAll, Act.put, List.setIfInBounds_toArray, List.set_cons_zero, List.set_cons_succ]) (hCont (v269, gb272) _ ⟨hHeld, (by (with_reducible repeat (first | apply Kd.R_alloc | apply Kd.R_drewN | apply Kd.R_drew)); exact Kd.R_mono HO270.out (fun _ hk => hk.2)), (by (with_reducible repeat (first | apply Kd.R_alloc | apply Kd.R_drewN | apply Kd.R_drew)); exact Kd.R_mono HO_250001.out (fun _ hk => hk.2)), (by (with_reducible repeat (first | apply Kd.N_alloc | apply Kd.N_drewN | apply Kd.N_drew)); exact Kd.N_mono HO_9.out (fun _ hk => ⟨hk.2, ⟨hk.1.1.1, ⟨hk.1.1.2, hk.1.2⟩⟩⟩)), (by (with_reducible repeat (first | refine blk_drewN ?_ _ | refine blk_drew ?_ | refine blk_alloc ?_ _)); exact BK249.out), (by (with_reducible repeat (first | refine blk_drewN ?_ _ | refine blk_drew ?_ | refine blk_alloc ?_ _)); exact BK272.out), GW272.out, GE272.out, NB249_272.out, NB272_249.out, (by repeat (first | (with_reducible first | exact HB.out | apply below_alloc | apply pw_below_drewN | apply below_drew1 | refine below_set ?_ GE249.out | refine below_set ?_ GE272.out) | exact HB.out))⟩)
            rintro ⟨v269, gb272⟩ w49 ⟨hS_, h0_, h1_, h2_, h3_, h4_, h5_, h6_, h7_, h8_, h9_⟩
            have n0_ : Aside0 (Kd.R (Kd.int .i64) 3 w49 w.heap.size (fun k_ => some k_ ≠ (.slice Ao43 x250001_10.length co43 : Value).ownBlock) v269 t268) := ⟨h0_⟩
            have n1_ : Aside0 (Kd.R (Kd.int .i64) 3 w49 w.heap.size (fun k_ => some k_ ≠ (v269 : Value).ownBlock) (.slice Ao43 x250001_10.length co43) x250001_10) := ⟨h1_⟩
            have n2_ : Aside0 (Kd.N k27 27 w49 w.heap.size (fun k_ => some k_ ≠ (v269 : Value).ownBlock ∧ some k_ ≠ (.slice Ao43 x250001_10.length co43 : Value).ownBlock ∧ k_ ≠ gb249 ∧ k_ ≠ gb272) (.slice Ao44 x9_10.length co44) x9_10) := ⟨h2_⟩
            have n3_ : Aside0 (w49.heap[gb249]? = some (.cells #[.int .i64 10, .slice Ao43 x250001_10.length co43] 30 (0, 0))) := ⟨h3_⟩
            have n4_ : Aside0 (w49.heap[gb272]? = some (.cells #[.int .i64 0, .slice none 0 0] 27 (0, 0))) := ⟨h4_⟩
            have n5_ : Aside0 (w.heap.size ≤ gb272) := ⟨h5_⟩
            have n6_ : Aside0 (w.heap.size ≤ gb272) := ⟨h6_⟩
            have n7_ : Aside0 (gb249 ≠ gb272) := ⟨h7_⟩
            have n8_ : Aside0 (gb272 ≠ gb249) := ⟨h8_⟩
            have n9_ : Aside0 (Below w.heap.size w w49) := ⟨h9_⟩
            clear HO_9
            clear HO_250001
            clear BK249
            clear HB
            clear h0_ h1_ h2_ h3_ h4_ h5_ h6_ h7_ h8_ h9_
            have HO270 := n0_
            have HO_250001 := n1_
            have HO_9 := n2_
            have BK249 := n3_
            have BK272 := n4_
            have GW272 := n5_
            have GE272 := n6_
            have NB249_272 := n7_
            have NB272_249 := n8_
            have HB := n9_
            clear n0_ n1_ n2_ n3_ n4_ n5_ n6_ n7_ n8_ n9_
            have hHeld : w49.cell? ⟨gb249, 0, none⟩ = some (.int .i64 10) ∧ w49.cell? ⟨gb249, 1, none⟩ = some (.slice Ao43 x250001_10.length co43) := hS_
            obtain ⟨Ao51, co51, eo51⟩ := Kd.R_slice HO270.out
            (first | subst eo51 | (injection eo51 with f1_ f2_ f3_; have f4_ := f1_.symm; have f5_ := f3_.symm; clear f1_ f2_ f3_; subst f4_; subst f5_))
            refine norm_ (a' := ?_) ?_ ?_
            rotate_left
            · simp only [putAll, Act.put, List.setIfInBounds_toArray, List.set_cons_zero, List.set_cons_succ]
              rfl
            refine one_ (i := 9) (N := none) #[true, true, true, true, true, true, true, true, true, true, false] rfl rfl (one_of HT_.out (by kernel_rfl)) (by decide) (fun K hK => ?_)
            have hs50 : w49.cell? ⟨gb272, 0, none⟩ = some (.int .i64 0) := (blk_cell BK272.out 0).trans rfl
            have hfs50 := blk_frozen BK272.out 0
            have hns50_0 := NB249_272.out
            have hms50_0 := NB272_249.out
            have hs52 : w49.cell? ⟨gb272, 1, none⟩ = some (.slice none 0 0) := (blk_cell BK272.out 1).trans rfl
            have hfs52 := blk_frozen BK272.out 1
            have hns52_0 := NB249_272.out
            have hms52_0 := NB272_249.out
            refine skip_ (w1 := ?_) (by rfl) rfl ?_ ?_
            rotate_left
            · go_simp
              rfl
            refine hK.out _ _ ⟨((cell_far (p := ⟨gb272, _, none⟩) NB249_272.out _).trans (((cell_far (p := ⟨gb272, _, none⟩) NB249_272.out _).trans (hHeld.1)))), ((cell_far (p := ⟨gb272, _, none⟩) NB249_272.out _).trans (((cell_far (p := ⟨gb272, _, none⟩) NB249_272.out _).trans (hHeld.2))))⟩ (fun hHeld => ?_)
            clear hK K
            refine pure_ (i := 10) (N := some 14) (v := ?_) (a' := ?_) #[true, true, true, true, true, true, true, true, true, true, true] rfl rfl (any_of HT_.out (by kernel_rfl)) (fun _ _ _ h => h) (Or.inl ⟨by rfl, ?_⟩) ?_ ?_
            rotate_left
            · intro w'
              go_simp
              with_reducible rfl
            rotate_left
            · simp only [Act.put, List.setIfInBounds_toArray, List.set_cons_zero, List.set_cons_succ, i64_w, i32_w]
              rfl
            refine done_ (done_of HT_.out (by kernel_rfl)) ?_
            go_upto_region 15 with (fail)
            go_cut [87] (fun v87 wc => ∃ (kq : Nat) (x87_41 : Bool), v87 = .bool x87_41 ∧ Aside0 (interlocutorlaw8_ActGroups.j2 kq a1 a2 x9_10 x87_41 10 x250001_10 = some r) ∧ Aside0 (kq ≤ kj10) ∧ Aside0 (Kd.N k27 27 wc w.heap.size (fun k_ => some k_ ≠ ((.slice Ao43 x250001_10.length co43) : Value).ownBlock ∧ some k_ ≠ ((.slice Ao51 t268.length co51) : Value).ownBlock ∧ k_ ≠ gb249 ∧ k_ ≠ gb272) (.slice Ao44 x9_10.length co44) x9_10) ∧ Aside0 (Kd.R (Kd.int .i64) 3 wc w.heap.size (fun k_ => some k_ ≠ ((.slice Ao51 t268.length co51) : Value).ownBlock) (.slice Ao43 x250001_10.length co43) x250001_10) ∧ Aside0 (Kd.R (Kd.int .i64) 3 wc w.heap.size (fun k_ => some k_ ≠ ((.slice Ao43 x250001_10.length co43) : Value).ownBlock) (.slice Ao51 t268.length co51) t268) ∧ Aside0 (wc.heap[gb249]? = some (.cells #[.int .i64 10, (.slice Ao43 x250001_10.length co43)] 30 (0, 0))) ∧ Aside0 (wc.heap[gb272]? = some (.cells #[.int .i64 t267, (.slice Ao51 t268.length co51)] 27 (0, 0))) ∧ Aside0 (Below w.heap.size w wc))
            case first =>
              have H := HC42.out
              clear HC42
              by_cases c53 : t271 = true
              · subst c53
                have H1 : ((interlocutorref10_Cmp.f kj10 t267 t268 7 (([x8_10, 0] : List Int))).bind fun t276 => (interlocutorlaw8_ActGroups.j2 kj10 a1 a2 x9_10 (t276 != 0) 10 x250001_10)) = some r := by rw [if_pos rfl] at H; exact H
                clear H
                have H := H1
                clear H1
                obtain ⟨y273, hy273⟩ : ∃ y_ : List Int, y_ = (([x8_10, 0] : List Int)) := ⟨_, rfl⟩
                replace H : ((interlocutorref10_Cmp.f kj10 t267 t268 7 y273).bind fun t276 => (interlocutorlaw8_ActGroups.j2 kj10 a1 a2 x9_10 (t276 != 0) 10 x250001_10)) = some r := by first | (rw [hy273]; with_reducible exact H) | (have H2_ := (Option.bind_some _ _).symm.trans H; rw [hy273]; with_reducible exact H2_) | (have H2_ := (Option.bind_some _ _).symm.trans H; with_reducible exact H2_) | with_reducible exact H | (rw [hy273]; exact H) | exact H
                have Ny273 := Aside0.mk hy273
                clear hy273
                replace H := Option.bind_eq_some_iff.mp H
                obtain ⟨t276, A540, H⟩ := H
                replace H : (interlocutorlaw8_ActGroups.j2 kj10 a1 a2 x9_10 (t276 != 0) 10 x250001_10) = some r := H
                have A54 := Aside0.mk A540
                clear A540
                have H' := Aside0.mk H
                clear H
                have hnb55 := NB272_249.out
                have hnc55 := NB249_272.out
                have hcz56_0 : w49.cell? ⟨gb272, 0, none⟩ = some (.int .i64 0) := (blk_cell BK272.out 0).trans rfl
                have hcz56_1 : w49.cell? ⟨gb272, 1, none⟩ = some (.slice none 0 0) := (blk_cell BK272.out 1).trans rfl
                have hfz56_0 := blk_frozen BK272.out 0
                have hfz56_1 := blk_frozen BK272.out 1
                go_wp2_with (first | ((with_reducible refine gate_dst (N := 83) rfl ?_); (try (refine gate_guard (by rfl) ?_; dsimp only)); refine Kd.R_lit (Kd.int .i64) _ 3 ?hg (N := 83) ?hd (xs := ([x8_10, 0] : List Int)) (inner := [.int .i64 x8_10, .int .i64 0]) (ok := fun _ => True) (okp := fun _ => True) ?hr ?hp (fun _ hk => hk) trivial (Below.refl _ _) (Nat.le_refl _) (by simp) ?_; (case hd => rfl); (case hg => rfl); (case hr => first | (go_simp; done) | (go_simp; rfl)); (case hp => exact (Reps.one (show Kd.M (Kd.int .i64) _ _ _ x8_10 [.int .i64 x8_10] from rfl) (Reps.one (show Kd.M (Kd.int .i64) _ _ _ 0 [.int .i64 0] from rfl) (Reps.none _ _)))); intro v274 w57 ho58 hb hg_ hnew_; clear hg_ hnew_; (first | rw [← Ny273.out] at ho58 | (simp only [Int.reduceToNat] at ho58; rw [← Ny273.out] at ho58)); have n0_ := Aside0.mk (Kd.N_elder' (by (with_reducible repeat (first | apply Kd.N_alloc | apply Kd.N_drewN | apply Kd.N_drew)); exact (Kd.N_mono (Kd.N_far (p := ⟨gb272, 1, none⟩) (Kd.N_far (p := ⟨gb272, 0, none⟩) (Kd.N_mono HO_9.out (fun k_ hk => (⟨hk, hk.2.2.2⟩ : _ ∧ k_ ≠ gb272))) (fun _ hk => hk.2) (.int .i64 t267)) (fun _ hk => hk.2) (.slice Ao51 t268.length co51)) (fun _ h_ => h_.1))) (Kd.R_base ho58) hb); have n1_ := Aside0.mk (Kd.R_elder' (by (with_reducible repeat (first | apply Kd.R_alloc | apply Kd.R_drewN | apply Kd.R_drew)); exact (Kd.R_mono (Kd.R_far (p := ⟨gb272, 1, none⟩) (Kd.R_far (p := ⟨gb272, 0, none⟩) (Kd.R_types HO_250001.out BK272.out (by decide)) (fun _ hk => hk.2) (.int .i64 t267)) (fun _ hk => hk.2) (.slice Ao51 t268.length co51)) (fun _ h_ => h_.1))) (Kd.R_base ho58) hb); have n2_ := Aside0.mk (Kd.R_elder' (by (with_reducible repeat (first | apply Kd.R_alloc | apply Kd.R_drewN | apply Kd.R_drew)); exact (Kd.R_mono (Kd.R_far (p := ⟨gb272, 1, none⟩) (Kd.R_far (p := ⟨gb272, 0, none⟩) (Kd.R_types HO270.out BK272.out (by decide)) (fun _ hk => hk.2) (.int .i64 t267)) (fun _ hk => hk.2) (.slice Ao51 t268.length co51)) (fun _ h_ => h_.1))) (Kd.R_base ho58) hb); have n3_ := Aside0.mk (Kd.R_lower (Kd.R_new' (Kd.R_new' ho58 (Kd.R_lt (by (with_reducible repeat (first | apply Kd.R_alloc | apply Kd.R_drewN | apply Kd.R_drew)); exact (Kd.R_mono (Kd.R_far (p := ⟨gb272, 1, none⟩) (Kd.R_far (p := ⟨gb272, 0, none⟩) (Kd.R_types HO_250001.out BK272.out (by decide)) (fun _ hk => hk.2) (.int .i64 t267)) (fun _ hk => hk.2) (.slice Ao51 t268.length co51)) (fun _ h_ => h_.1))))) (Kd.R_lt (by (with_reducible repeat (first | apply Kd.R_alloc | apply Kd.R_drewN | apply Kd.R_drew)); exact (Kd.R_mono (Kd.R_far (p := ⟨gb272, 1, none⟩) (Kd.R_far (p := ⟨gb272, 0, none⟩) (Kd.R_types HO270.out BK272.out (by decide)) (fun _ hk => hk.2) (.int .i64 t267)) (fun _ hk => hk.2) (.slice Ao51 t268.length co51)) (fun _ h_ => h_.1))))) (below_size (by repeat (first | (with_reducible first | exact HB.out | apply below_alloc | apply pw_below_drewN | apply below_drew1 | refine below_set ?_ GE249.out | refine below_set ?_ GE272.out) | exact HB.out)))); have n4_ := Aside0.mk (blk_below (g := gb249) (o := .cells #[.int .i64 10, .slice Ao43 x250001_10.length co43] 30 (0, 0)) (by (with_reducible repeat (first | refine blk_drewN ?_ _ | refine blk_drew ?_ | refine blk_alloc ?_ _)); refine blk_far ?_ NB249_272.out _; (with_reducible repeat (first | refine blk_drewN ?_ _ | refine blk_drew ?_ | refine blk_alloc ?_ _)); refine blk_far ?_ NB249_272.out _; (with_reducible repeat (first | refine blk_drewN ?_ _ | refine blk_drew ?_ | refine blk_alloc ?_ _)); exact BK249.out) hb); have n5_ := Aside0.mk (blk_below (g := gb272) (o := .cells #[.int .i64 t267, .slice Ao51 t268.length co51] 27 (0, 0)) (by (with_reducible repeat (first | refine blk_drewN ?_ _ | refine blk_drew ?_ | refine blk_alloc ?_ _)); refine blk_put (cs := #[.int .i64 t267, .slice none 0 0]) ?_ 1 _ rfl; (with_reducible repeat (first | refine blk_drewN ?_ _ | refine blk_drew ?_ | refine blk_alloc ?_ _)); refine blk_put (cs := #[.int .i64 0, .slice none 0 0]) ?_ 0 _ rfl; (with_reducible repeat (first | refine blk_drewN ?_ _ | refine blk_drew ?_ | refine blk_alloc ?_ _)); exact BK272.out) hb); have n6_ := Aside0.mk (below_step (by repeat (first | (with_reducible first | exact HB.out | apply below_alloc | apply pw_below_drewN | apply below_drew1 | refine below_set ?_ GE249.out | refine below_set ?_ GE272.out) | exact HB.out)) hb); clear HO_9; clear HO_250001; clear HO270; clear BK249; clear BK272; clear HB; have HO_9 := n0_; have HO_250001 := n1_; have HO270 := n2_; have HO275 := n3_; have BK249 := n4_; have BK272 := n5_; have HB := n6_; clear n0_ n1_ n2_ n3_ n4_ n5_ n6_; clear hb ho58; obtain ⟨Ao59, co59, eo59⟩ := Kd.R_slice HO275.out; subst eo59) | (go_at_call 24; (with_reducible refine (interlocutorref10_Cmp.calls kj10 t267 _ _ t268 7 _ _ y273 t276 _ ?side1 ?side2 ?side3 ?side4 A54.out).mono ?_); (case side1 => repeat (first | exact (Kd.R_reads' HO270.out).2.2 | (with_reducible refine Kd.C_alloc ?_ _) | (with_reducible refine Kd.C_drewN ?_ _) | (with_reducible refine Kd.C_drew ?_))); (case side2 => exact (Kd.R_reads' HO270.out).2.1); (case side3 => repeat (first | exact (Kd.R_reads' HO275.out).2.2 | (with_reducible refine Kd.C_alloc ?_ _) | (with_reducible refine Kd.C_drewN ?_ _) | (with_reducible refine Kd.C_drew ?_))); (case side4 => exact (Kd.R_reads' HO275.out).2.1); rintro e w60 ⟨rfl, hb⟩; have n0_ := Aside0.mk (Kd.N_below (by (with_reducible repeat (first | apply Kd.N_alloc | apply Kd.N_drewN | apply Kd.N_drew)); exact HO_9.out) hb); have n1_ := Aside0.mk (Kd.R_below (by (with_reducible repeat (first | apply Kd.R_alloc | apply Kd.R_drewN | apply Kd.R_drew)); exact HO_250001.out) hb); have n2_ := Aside0.mk (Kd.R_below (by (with_reducible repeat (first | apply Kd.R_alloc | apply Kd.R_drewN | apply Kd.R_drew)); exact HO270.out) hb); have n3_ := Aside0.mk (Kd.R_below (by (with_reducible repeat (first | apply Kd.R_alloc | apply Kd.R_drewN | apply Kd.R_drew)); exact HO275.out) hb); have n4_ := Aside0.mk (blk_below (g := gb249) (o := .cells #[.int .i64 10, .slice Ao43 x250001_10.length co43] 30 (0, 0)) (by (with_reducible repeat (first | refine blk_drewN ?_ _ | refine blk_drew ?_ | refine blk_alloc ?_ _)); exact BK249.out) hb); have n5_ := Aside0.mk (blk_below (g := gb272) (o := .cells #[.int .i64 t267, .slice Ao51 t268.length co51] 27 (0, 0)) (by (with_reducible repeat (first | refine blk_drewN ?_ _ | refine blk_drew ?_ | refine blk_alloc ?_ _)); exact BK272.out) hb); have n6_ := Aside0.mk (below_step (by repeat (first | (with_reducible first | exact HB.out | apply below_alloc | apply pw_below_drewN | apply below_drew1 | refine below_set ?_ GE249.out | refine below_set ?_ GE272.out) | exact HB.out)) hb); clear HO_9; clear HO_250001; clear HO270; clear HO275; clear BK249; clear BK272; clear HB; have HO_9 := n0_; have HO_250001 := n1_; have HO270 := n2_; have HO275 := n3_; have BK249 := n4_; have BK272 := n5_; have HB := n6_; clear n0_ n1_ n2_ n3_ n4_ n5_ n6_; (try clear hb); (try clear hb2); (try clear hk); (try clear hi)))
                go_meet
                case rel => exact ⟨_, ((t276 != 0)), (by first | rfl | (simp; done) | (simp [*]; done)), H', ⟨by have := HJ10.out; first | omega | exact Nat.le_refl _⟩, ⟨by (with_reducible repeat (first | apply Kd.N_alloc | apply Kd.N_drewN | apply Kd.N_drew)); exact Kd.N_mono HO_9.out (fun _ hk => ⟨hk.1.2.1, ⟨hk.1.1, ⟨hk.1.2.2.1, hk.1.2.2.2⟩⟩⟩)⟩, ⟨by (with_reducible repeat (first | apply Kd.R_alloc | apply Kd.R_drewN | apply Kd.R_drew)); exact Kd.R_mono HO_250001.out (fun _ hk => hk.1)⟩, ⟨by (with_reducible repeat (first | apply Kd.R_alloc | apply Kd.R_drewN | apply Kd.R_drew)); exact Kd.R_mono HO270.out (fun _ hk => hk.1)⟩, ⟨by (with_reducible repeat (first | refine blk_drewN ?_ _ | refine blk_drew ?_ | refine blk_alloc ?_ _)); exact BK249.out⟩, ⟨by (with_reducible repeat (first | refine blk_drewN ?_ _ | refine blk_drew ?_ | refine blk_alloc ?_ _)); exact BK272.out⟩, ⟨by repeat (first | (with_reducible first | exact HB.out | apply below_alloc | apply pw_below_drewN | apply below_drew1 | refine below_set ?_ GE249.out | refine below_set ?_ GE272.out) | exact HB.out)⟩⟩
              · replace c53 := Bool.eq_false_iff.mpr c53
                subst c53
                have H1 : (interlocutorlaw8_ActGroups.j2 kj10 a1 a2 x9_10 true 10 x250001_10) = some r := by rw [if_neg (show ¬ (false = true) by decide)] at H; exact H
                clear H
                have H := H1
                clear H1
                have H' := Aside0.mk H
                clear H
                go_wp2
                go_meet
                case rel => exact ⟨_, (true), (by first | rfl | (simp; done) | (simp [*]; done)), H', ⟨by have := HJ10.out; first | omega | exact Nat.le_refl _⟩, ⟨by (with_reducible repeat (first | apply Kd.N_alloc | apply Kd.N_drewN | apply Kd.N_drew)); exact Kd.N_mono (Kd.N_far (p := ⟨gb272, 1, none⟩) (Kd.N_far (p := ⟨gb272, 0, none⟩) (Kd.N_mono HO_9.out (fun k_ hk => (⟨hk, hk.2.2.2⟩ : _ ∧ k_ ≠ gb272))) (fun _ hk => hk.2) (.int .i64 t267)) (fun _ hk => hk.2) (.slice Ao51 t268.length co51)) (fun _ hk => ⟨hk.1.2.1, ⟨hk.1.1, ⟨hk.1.2.2.1, hk.1.2.2.2⟩⟩⟩)⟩, ⟨by (with_reducible repeat (first | apply Kd.R_alloc | apply Kd.R_drewN | apply Kd.R_drew)); exact Kd.R_mono (Kd.R_far (p := ⟨gb272, 1, none⟩) (Kd.R_far (p := ⟨gb272, 0, none⟩) (Kd.R_types HO_250001.out BK272.out (by decide)) (fun _ hk => hk.2) (.int .i64 t267)) (fun _ hk => hk.2) (.slice Ao51 t268.length co51)) (fun _ hk => hk.1)⟩, ⟨by (with_reducible repeat (first | apply Kd.R_alloc | apply Kd.R_drewN | apply Kd.R_drew)); exact Kd.R_mono (Kd.R_far (p := ⟨gb272, 1, none⟩) (Kd.R_far (p := ⟨gb272, 0, none⟩) (Kd.R_types HO270.out BK272.out (by decide)) (fun _ hk => hk.2) (.int .i64 t267)) (fun _ hk => hk.2) (.slice Ao51 t268.length co51)) (fun _ hk => hk.1)⟩, ⟨by (with_reducible repeat (first | refine blk_drewN ?_ _ | refine blk_drew ?_ | refine blk_alloc ?_ _)); refine blk_far ?_ NB249_272.out _; (with_reducible repeat (first | refine blk_drewN ?_ _ | refine blk_drew ?_ | refine blk_alloc ?_ _)); refine blk_far ?_ NB249_272.out _; (with_reducible repeat (first | refine blk_drewN ?_ _ | refine blk_drew ?_ | refine blk_alloc ?_ _)); exact BK249.out⟩, ⟨by (with_reducible repeat (first | refine blk_drewN ?_ _ | refine blk_drew ?_ | refine blk_alloc ?_ _)); refine blk_put (cs := #[.int .i64 t267, .slice none 0 0]) ?_ 1 _ rfl; (with_reducible repeat (first | refine blk_drewN ?_ _ | refine blk_drew ?_ | refine blk_alloc ?_ _)); refine blk_put (cs := #[.int .i64 0, .slice none 0 0]) ?_ 0 _ rfl; (with_reducible repeat (first | refine blk_drewN ?_ _ | refine blk_drew ?_ | refine blk_alloc ?_ _)); exact BK272.out⟩, ⟨by repeat (first | (with_reducible first | exact HB.out | apply below_alloc | apply pw_below_drewN | apply below_drew1 | refine below_set ?_ GE249.out | refine below_set ?_ GE272.out) | exact HB.out)⟩⟩
            case rest =>
              clear HC42
              try clear c1
              try clear c2
              try clear p2
              try clear q2
              try clear hx2
              try clear c3
              try clear c5
              try clear p6
              try clear c8
              try clear c8b0
              try clear c9
              try clear c9b0
              try clear c17
              try clear c18
              try clear c21
              try clear c22
              try clear p23
              try clear q23
              try clear hx23
              try clear p25
              try clear q25
              try clear hx25
              try clear c26
              try clear c26b0
              try clear c27
              try clear c27b0
              try clear c28
              try clear c28b0
              try clear c30
              try clear c31
              try clear c53
              try clear c55
              try clear hcz25_0
              try clear hcz25_1
              try clear hcz36_0
              try clear hcz36_1
              try clear hcz39_0
              try clear hcz39_1
              try clear hcz56_0
              try clear hcz56_1
              try clear hfz25_0
              try clear hfz25_1
              try clear hfz36_0
              try clear hfz36_1
              try clear hfz39_0
              try clear hfz39_1
              try clear hfz56_0
              try clear hfz56_1
              try clear hx238_0
              try clear hx250_0
              try clear p2
              try clear p23
              try clear p238
              try clear p25
              try clear p250
              try clear p6
              try clear q2
              try clear q23
              try clear q238
              try clear q25
              try clear q250
              obtain ⟨kq, x87_41, rfl, HA, HJ41, HO_9, HO_250001, HO_273001, BK249, BK272, HB⟩ := hcut
              cases kq with
              | zero => exact absurd HA.out (by simp [interlocutorlaw8_ActGroups.j2])
              | succ kj41 =>
                have H := HA.out
                clear HA
                simp only [interlocutorlaw8_ActGroups.j2] at H
                by_cases c61 : x87_41 = true
                · subst c61
                  have H1 : (some false) = some r := by rw [if_pos rfl] at H; exact H
                  clear H
                  have H := H1
                  clear H1
                  obtain rfl := Option.some.inj H
                  go_wp2
                  go_ret
                  exact ⟨by first | rfl | (simp [errW_none, errW_some] <;> rfl) | (simp only [← hji7]; first | rfl | (simp [errW_none, errW_some] <;> rfl)) | (simp [*, errW_none, errW_some] <;> rfl), by repeat (first | (with_reducible first | exact HB.out | apply below_alloc | apply pw_below_drewN | apply below_drew1 | refine below_set ?_ GE249.out | refine below_set ?_ GE272.out) | exact HB.out)⟩
                · replace c61 := Bool.eq_false_iff.mpr c61
                  subst c61
                  have H1 : ((interlocutorlaw8_within.f a2 (x9_10.length : Int)).bind fun t277 => (if 0 ≤ t277 then (if t277 < (x9_10.length : Int) then (if 0 < (((rd_T27 x9_10 t277).f1).length : Int) then ((interlocutorlaw8_Ref.f a1).bind fun bt284 => ((act_Do.f kj41 10 x250001_10 (x9_10.set (t277 : Int).toNat (⟨1, (([rd ((rd_T27 x9_10 t277).f1) 0, 4] : List Int))⟩ : S27)) bt284.1 bt284.2.1 bt284.2.2.1 bt284.2.2.2.1 bt284.2.2.2.2.1 bt284.2.2.2.2.2).bind fun bt290 => (some (!bt290.2.2)))) else (none)) else (none)) else (none))) = some r := by rw [if_neg (show ¬ (false = true) by decide)] at H; exact H
                  clear H
                  have H := H1
                  clear H1
                  replace H := Option.bind_eq_some_iff.mp H
                  obtain ⟨t277, A620, H⟩ := H
                  replace H : (if 0 ≤ t277 then (if t277 < (x9_10.length : Int) then (if 0 < (((rd_T27 x9_10 t277).f1).length : Int) then ((interlocutorlaw8_Ref.f a1).bind fun bt284 => ((act_Do.f kj41 10 x250001_10 (x9_10.set (t277 : Int).toNat (⟨1, (([rd ((rd_T27 x9_10 t277).f1) 0, 4] : List Int))⟩ : S27)) bt284.1 bt284.2.1 bt284.2.2.1 bt284.2.2.2.1 bt284.2.2.2.2.1 bt284.2.2.2.2.2).bind fun bt290 => (some (!bt290.2.2)))) else (none)) else (none)) else (none)) = some r := H
                  have A62 := Aside0.mk A620
                  clear A620
                  by_cases c63 : 0 ≤ t277
                  · rw [if_pos c63] at H
                    have c63b0 : decide (0 ≤ t277) = true := decide_eq_true c63
                    clear c63
                    by_cases c64 : t277 < (x9_10.length : Int)
                    · rw [if_pos c64] at H
                      have c64b0 : decide (t277 < (x9_10.length : Int)) = true := decide_eq_true c64
                      clear c64
                      by_cases c65 : 0 < (((rd_T27 x9_10 t277).f1).length : Int)
                      · rw [if_pos c65] at H
                        have c65b0 : decide (0 < (((rd_T27 x9_10 t277).f1).length : Int)) = true := decide_eq_true c65
                        have c65b1 : decide (0 < ((rd_T27 x9_10 t277).f1).length) = true := decide_eq_true (by omega)
                        clear c65
                        obtain ⟨y280, hy280⟩ : ∃ y_ : List Int, y_ = (([rd ((rd_T27 x9_10 t277).f1) 0, 4] : List Int)) := ⟨_, rfl⟩
                        replace H : ((interlocutorlaw8_Ref.f a1).bind fun bt284 => ((act_Do.f kj41 10 x250001_10 (x9_10.set (t277 : Int).toNat (⟨1, y280⟩ : S27)) bt284.1 bt284.2.1 bt284.2.2.1 bt284.2.2.2.1 bt284.2.2.2.2.1 bt284.2.2.2.2.2).bind fun bt290 => (some (!bt290.2.2)))) = some r := by first | (rw [hy280]; with_reducible exact H) | (have H2_ := (Option.bind_some _ _).symm.trans H; rw [hy280]; with_reducible exact H2_) | (have H2_ := (Option.bind_some _ _).symm.trans H; with_reducible exact H2_) | with_reducible exact H | (rw [hy280]; exact H) | exact H
                        have Ny280 := Aside0.mk hy280
                        clear hy280
                        obtain ⟨y283, hy283⟩ : ∃ y_ : List (S27), y_ = (x9_10.set (t277 : Int).toNat (⟨1, y280⟩ : S27)) := ⟨_, rfl⟩
                        replace H : ((interlocutorlaw8_Ref.f a1).bind fun bt284 => ((act_Do.f kj41 10 x250001_10 y283 bt284.1 bt284.2.1 bt284.2.2.1 bt284.2.2.2.1 bt284.2.2.2.2.1 bt284.2.2.2.2.2).bind fun bt290 => (some (!bt290.2.2)))) = some r := by first | (rw [hy283]; with_reducible exact H) | (have H2_ := (Option.bind_some _ _).symm.trans H; rw [hy283]; with_reducible exact H2_) | (have H2_ := (Option.bind_some _ _).symm.trans H; with_reducible exact H2_) | with_reducible exact H | (rw [hy283]; exact H) | exact H
                        have Ny283 := Aside0.mk hy283
                        clear hy283
                        replace H := Option.bind_eq_some_iff.mp H
                        obtain ⟨⟨t284, t285, t286, t287, t288, t289⟩, A670, H⟩ := H
                        replace H : ((act_Do.f kj41 10 x250001_10 y283 t284 t285 t286 t287 t288 t289).bind fun bt290 => (some (!bt290.2.2))) = some r := H
                        have A67 := Aside0.mk A670
                        clear A670
                        replace H := Option.bind_eq_some_iff.mp H
                        obtain ⟨⟨t290, t291, t294⟩, A680, H⟩ := H
                        replace H : (some (!t294)) = some r := H
                        have A68 := Aside0.mk A680
                        clear A680
                        obtain rfl := Option.some.inj H
                        try go_wp2_with (first | ((with_reducible refine gate_callee (f := 18) rfl ?_); refine goesL_ (some 91) rfl rfl Try.func18 (by kernel_rfl) rfl #[.int .i64 a2, .int .i64 (x9_10.length : Int)] rfl (by (try simp only [List.map_toArray, List.map_cons, List.map_nil]); first | done | rfl | (simp only [List.length_drop, List.length_take]; rfl)) ?_; (with_reducible refine (interlocutorlaw8_within.calls a2 (x9_10.length : Int) t277 _ A62.out).mono ?_); rintro e w' ⟨rfl, ⟨nd, rfl⟩⟩; refine ⟨_, rfl, ?_⟩; (try (rw [drewN_self wc]; generalize hq_ : World.drewN wc _ = wc; have n0_ : Aside0 (Kd.R (Kd.int .i64) 3 wc w.heap.size (fun k_ => some k_ ≠ (.slice Ao51 t268.length co51 : Value).ownBlock) (.slice Ao43 x250001_10.length co43) x250001_10) := ⟨by rw [← hq_]; exact (by (with_reducible repeat (first | apply Kd.R_alloc | apply Kd.R_drewN | apply Kd.R_drew)); exact HO_250001.out)⟩; have n1_ : Aside0 (Kd.R (Kd.int .i64) 3 wc w.heap.size (fun k_ => some k_ ≠ (.slice Ao43 x250001_10.length co43 : Value).ownBlock) (.slice Ao51 t268.length co51) t268) := ⟨by rw [← hq_]; exact (by (with_reducible repeat (first | apply Kd.R_alloc | apply Kd.R_drewN | apply Kd.R_drew)); exact HO_273001.out)⟩; have n2_ : Aside0 (Kd.N k27 27 wc w.heap.size (fun k_ => some k_ ≠ (.slice Ao43 x250001_10.length co43 : Value).ownBlock ∧ some k_ ≠ (.slice Ao51 t268.length co51 : Value).ownBlock ∧ k_ ≠ gb249 ∧ k_ ≠ gb272) (.slice Ao44 x9_10.length co44) x9_10) := ⟨by rw [← hq_]; exact (by (with_reducible repeat (first | apply Kd.N_alloc | apply Kd.N_drewN | apply Kd.N_drew)); exact HO_9.out)⟩; have n3_ : Aside0 (wc.heap[gb249]? = some (.cells #[.int .i64 10, .slice Ao43 x250001_10.length co43] 30 (0, 0))) := ⟨by rw [← hq_]; exact (by (with_reducible repeat (first | refine blk_drewN ?_ _ | refine blk_drew ?_ | refine blk_alloc ?_ _)); exact BK249.out)⟩; have n4_ : Aside0 (wc.heap[gb272]? = some (.cells #[.int .i64 t267, .slice Ao51 t268.length co51] 27 (0, 0))) := ⟨by rw [← hq_]; exact (by (with_reducible repeat (first | refine blk_drewN ?_ _ | refine blk_drew ?_ | refine blk_alloc ?_ _)); exact BK272.out)⟩; have n5_ : Aside0 (Below w.heap.size w wc) := ⟨by rw [← hq_]; exact (by repeat (first | (with_reducible first | exact HB.out | apply below_alloc | apply pw_below_drewN | apply below_drew1 | refine below_set ?_ GE249.out | refine below_set ?_ GE272.out) | exact HB.out))⟩; clear HO_250001 HO_273001 HO_9 BK249 BK272 HB hq_; have HO_250001 := n0_; have HO_273001 := n1_; have HO_9 := n2_; have BK249 := n3_; have BK272 := n4_; have HB := n5_; clear n0_ n1_ n2_ n3_ n4_ n5_)); have p278 : 0 ≤ (t277 : Int) := of_decide_eq_true (by first | (with_reducible assumption) | assumption); have q278 : t277 < (x9_10.length : Int) := of_decide_eq_true (by first | (with_reducible assumption) | assumption); obtain ⟨ad278, A278_1, c278_1, e278, hx278_0, hx278_1, hl278_1, hi278_1⟩ := at_T27 (Kd.N_reads' HO_9.out).2.2 t277 p278 q278; cases e278; obtain ⟨ce278, hce278, hMe278, hcc278⟩ := Kd.N_get HO_9.out z27 t277 p278 (by first | exact q278 | exact of_decide_eq_true (by first | (with_reducible assumption) | assumption) | (have e_ := (Kd.N_reads' HO_9.out).1; omega)); obtain ⟨ua278_1, uc278_1, rfl, ul278_1, ge278_1⟩ := k27_openF hMe278; have hv278_1 := hcc278 1 _ rfl; rw [add_field _ _ 1 (by omega)] at hv278_1; replace hv278_1 := Option.some.inj (hv278_1.symm.trans hx278_1); injection hv278_1 with hva_ hvn_ hvc_; rw [hva_] at ge278_1; rw [hvc_] at ul278_1; have HL278_1 := Aside0.mk (show Kd.V (Kd.int .i64) 3 _ w.heap.size _ _ ((rd_T27 x9_10 t277).f1) from Kd.V_mk ul278_1 ge278_1); clear hva_ hvn_ hvc_ ge278_1 ul278_1; clear hcc278 hce278; have HR278_1 := Aside0.mk hi278_1; have HC278_1 := Aside0.mk hl278_1; clear hi278_1 hl278_1; replace p278 := eq_true p278; replace q278 := eq_true q278; have p279 : 0 ≤ (0 : Int) := (by omega); have q279 : 0 < (((rd_T27 x9_10 t277).f1).length : Int) := of_decide_eq_true (by first | (with_reducible assumption) | assumption); obtain ⟨ad279, e279, hx279_0⟩ := Kd.at_int (by repeat (first | (with_reducible exact HR278_1.out) | (with_reducible refine Kd.C_alloc ?_ _) | (with_reducible refine Kd.C_drewN ?_ _) | (with_reducible refine Kd.C_drew ?_) | exact HR278_1.out)) 0 p279 q279; cases e279; have qi279 : (0 < ((rd_T27 x9_10 t277).f1).length) = True := eq_true (by omega); (try rw [show ((0 : Int)).toNat = 0 from rfl] at hx279_0); (try rw [Addr.add_zero'] at hx279_0); replace p279 := eq_true p279; replace q279 := eq_true q279) | ((with_reducible refine gate_dst (N := 101) rfl ?_); (try (refine gate_guard (by rfl) ?_; dsimp only)); refine Kd.R_lit (Kd.int .i64) _ 3 ?hg (N := 101) ?hd (xs := ([rd ((rd_T27 x9_10 t277).f1) 0, 4] : List Int)) (inner := [.int .i64 (rd ((rd_T27 x9_10 t277).f1) 0), .int .i64 4]) (ok := fun _ => True) (okp := fun _ => True) ?hr ?hp (fun _ hk => hk) trivial (Below.refl _ _) (Nat.le_refl _) (by simp) ?_; (case hd => rfl); (case hg => rfl); (case hr => first | (go_simp; done) | (go_simp; rfl)); (case hp => exact (Reps.one (show Kd.M (Kd.int .i64) _ _ _ (rd ((rd_T27 x9_10 t277).f1) 0) [.int .i64 (rd ((rd_T27 x9_10 t277).f1) 0)] from rfl) (Reps.one (show Kd.M (Kd.int .i64) _ _ _ 4 [.int .i64 4] from rfl) (Reps.none _ _)))); intro v281 w69 ho70 hb hg_ hnew_; clear hg_ hnew_; (first | rw [← Ny280.out] at ho70 | (simp only [Int.reduceToNat] at ho70; rw [← Ny280.out] at ho70)); have n0_ := Aside0.mk (Kd.N_elder' (by (with_reducible repeat (first | apply Kd.N_alloc | apply Kd.N_drewN | apply Kd.N_drew)); exact HO_9.out) (Kd.R_base ho70) hb); have n1_ := Aside0.mk (Kd.R_elder' (by (with_reducible repeat (first | apply Kd.R_alloc | apply Kd.R_drewN | apply Kd.R_drew)); exact HO_250001.out) (Kd.R_base ho70) hb); have n2_ := Aside0.mk (Kd.R_elder' (by (with_reducible repeat (first | apply Kd.R_alloc | apply Kd.R_drewN | apply Kd.R_drew)); exact HO_273001.out) (Kd.R_base ho70) hb); have n3_ := Aside0.mk (Kd.V_elder' (by (with_reducible repeat (first | apply Kd.V_alloc | apply Kd.V_drewN | apply Kd.V_drew)); exact HL278_1.out) (Kd.R_base ho70) hb); have n4_ := Aside0.mk (Kd.R_lower (Kd.R_new' (Kd.R_new' ho70 (Kd.R_lt (by (with_reducible repeat (first | apply Kd.R_alloc | apply Kd.R_drewN | apply Kd.R_drew)); exact HO_250001.out))) (Kd.R_lt (by (with_reducible repeat (first | apply Kd.R_alloc | apply Kd.R_drewN | apply Kd.R_drew)); exact HO_273001.out))) (below_size (by repeat (first | (with_reducible first | exact HB.out | apply below_alloc | apply pw_below_drewN | apply below_drew1 | refine below_set ?_ GE249.out | refine below_set ?_ GE272.out) | exact HB.out)))); have n5_ := Aside0.mk (blk_below (g := gb249) (o := .cells #[.int .i64 10, .slice Ao43 x250001_10.length co43] 30 (0, 0)) (by (with_reducible repeat (first | refine blk_drewN ?_ _ | refine blk_drew ?_ | refine blk_alloc ?_ _)); exact BK249.out) hb); have n6_ := Aside0.mk (blk_below (g := gb272) (o := .cells #[.int .i64 t267, .slice Ao51 t268.length co51] 27 (0, 0)) (by (with_reducible repeat (first | refine blk_drewN ?_ _ | refine blk_drew ?_ | refine blk_alloc ?_ _)); exact BK272.out) hb); have n7_ := Aside0.mk (Kd.C_below (by repeat (first | (with_reducible exact HR278_1.out) | (with_reducible refine Kd.C_alloc ?_ _) | (with_reducible refine Kd.C_drewN ?_ _) | (with_reducible refine Kd.C_drew ?_) | exact HR278_1.out)) hb); have n8_ := Aside0.mk (below_step (by repeat (first | (with_reducible first | exact HB.out | apply below_alloc | apply pw_below_drewN | apply below_drew1 | refine below_set ?_ GE249.out | refine below_set ?_ GE272.out) | exact HB.out)) hb); clear HO_9; clear HO_250001; clear HO_273001; clear HL278_1; clear BK249; clear BK272; clear HR278_1; clear HB; have HO_9 := n0_; have HO_250001 := n1_; have HO_273001 := n2_; have HL278_1 := n3_; have HO282 := n4_; have BK249 := n5_; have BK272 := n6_; have HR278_1 := n7_; have HB := n8_; clear n0_ n1_ n2_ n3_ n4_ n5_ n6_ n7_ n8_; clear hb ho70; obtain ⟨Ao71, co71, eo71⟩ := Kd.R_slice HO282.out; subst eo71; have p66 : 0 ≤ (t277 : Int) := of_decide_eq_true (by first | (with_reducible assumption) | assumption); have q66 : (t277 : Int) < ((x9_10.length : Int) : Int) := of_decide_eq_true (by first | (with_reducible assumption) | assumption); obtain ⟨go66, co66, eo66, gb66, gl66, cl66, HG66⟩ := Kd.N_form HO_9.out (by omega); (first | cases eo66 | (injection eo66 with ea_ en_ ec_; (first | subst ea_ | (injection ea_ with ea_; subst ea_)); subst ec_; clear en_)); have GB66 := Aside0.mk gb66; have GG66 := Aside0.mk HG66; clear gb66 gl66 HG66; (first | simp only [add_plain] at hx278_0 | skip); (first | simp only [add_plain] at hx278_1 | skip); obtain ⟨ce66, hcl66, hM66, hcc66, hfr66⟩ := Kd.N_elem HO_9.out z27 (t277 : Int) p66 q66; obtain ⟨ua66_1, uc66_1, rfl, ul66_1, ge66_1⟩ := k27_openF hM66; have hx66_0 : w69.cell? ⟨go66, (t277 : Int).toNat * 2, none⟩ = some (.int .i64 ((rd_T27 x9_10 t277).f0)) := hcc66 0 _ rfl; have hx66_1 : w69.cell? ⟨go66, (t277 : Int).toNat * 2 + 1, none⟩ = some (.slice ua66_1 ((rd_T27 x9_10 t277).f1).length uc66_1) := hcc66 1 _ rfl; have hf66_0 : w69.frozen? ⟨go66, (t277 : Int).toNat * 2, none⟩ = false := hfr66 0; have hf66_1 : w69.frozen? ⟨go66, (t277 : Int).toNat * 2 + 1, none⟩ = false := hfr66 1; clear hcl66 hcc66 hfr66 hM66; replace p66 := eq_true p66; replace q66 := eq_true q66; have n_ := Aside0.mk (Kd.N_mono (ok' := (fun k_ => some k_ ≠ (.slice Ao43 x250001_10.length co43 : Value).ownBlock ∧ some k_ ≠ (.slice Ao51 t268.length co51 : Value).ownBlock ∧ some k_ ≠ (.slice Ao71 y280.length co71 : Value).ownBlock ∧ k_ ≠ gb249 ∧ k_ ≠ gb272)) HO_9.out (fun k_ hk => ⟨hk.1.1, ⟨hk.1.2.1, ⟨hk.2, ⟨hk.1.2.2.1, hk.1.2.2.2⟩⟩⟩⟩)); clear HO_9; have HO_9 := n_; clear n_; have HX72 := Aside0.mk (show Kd.N k27 27 w69 w.heap.size (fun k_ => some k_ ≠ (.slice Ao43 x250001_10.length co43 : Value).ownBlock ∧ some k_ ≠ (.slice Ao51 t268.length co51 : Value).ownBlock ∧ k_ ≠ gb249 ∧ k_ ≠ gb272) (.slice (some ⟨go66, 0, none⟩) x9_10.length co44) x9_10 from (by (with_reducible repeat (first | apply Kd.N_alloc | apply Kd.N_drewN | apply Kd.N_drew)); exact Kd.N_mono HO_9.out (fun _ hk => ⟨hk.1, ⟨hk.2.1, ⟨hk.2.2.2.1, hk.2.2.2.2⟩⟩⟩))); obtain ⟨ce72, hcl72, hM72, hcc72, hfr72⟩ := Kd.N_elem HX72.out z27 (t277 : Int) (of_decide_eq_true (by first | (with_reducible assumption) | assumption)) (by have h_ : (t277 : Int) < ((x9_10.length : Int) : Int) := of_decide_eq_true (by first | (with_reducible assumption) | assumption); first | exact h_ | (have e_ := (Kd.N_reads' HO_9.out).1; omega) | simpa using h_); obtain ⟨ua72_1, uc72_1, rfl, ul72_1, ge72_1⟩ := k27_openF hM72; have HP72 := Kd.N_seg HX72.out (t277 : Int) (of_decide_eq_true (by first | (with_reducible assumption) | assumption)) (by have h_ : (t277 : Int) < ((x9_10.length : Int) : Int) := of_decide_eq_true (by first | (with_reducible assumption) | assumption); first | exact h_ | (have e_ := (Kd.N_reads' HO_9.out).1; omega) | simpa using h_) (seg := [.int .i64 1, .slice Ao71 y280.length co71]) (j := 0) hcl72 hcc72 (show 2 ≤ 2 from by decide) (x' := (⟨1, y280⟩ : S27)) (k27_mkF _ _ (⟨1, y280⟩ : S27) (Kd.R_reads' (Kd.R_mono (ok' := (fun k_ => ((fun k_ => some k_ ≠ (.slice Ao43 x250001_10.length co43 : Value).ownBlock ∧ some k_ ≠ (.slice Ao51 t268.length co51 : Value).ownBlock ∧ k_ ≠ gb249 ∧ k_ ≠ gb272)) k_ ∧ k_ ≠ go66)) (Kd.R_types (Kd.R_types (Kd.R_apart' (HO282.out) (Kd.N_typed HO_9.out) (by decide)) BK249.out (by decide)) BK272.out (by decide)) (fun k_ hk => ⟨⟨hk.1.1.1.1.2, ⟨hk.1.1.1.2, ⟨hk.1.2, hk.2⟩⟩⟩, fun e_ => (hk.1.1.2) (by rw [e_]; rfl)⟩))).2.1 (Kd.R_F (Kd.R_mono (ok' := (fun k_ => ((fun k_ => some k_ ≠ (.slice Ao43 x250001_10.length co43 : Value).ownBlock ∧ some k_ ≠ (.slice Ao51 t268.length co51 : Value).ownBlock ∧ k_ ≠ gb249 ∧ k_ ≠ gb272)) k_ ∧ k_ ≠ go66)) (Kd.R_types (Kd.R_types (Kd.R_apart' (HO282.out) (Kd.N_typed HO_9.out) (by decide)) BK249.out (by decide)) BK272.out (by decide)) (fun k_ hk => ⟨⟨hk.1.1.1.1.2, ⟨hk.1.1.1.2, ⟨hk.1.2, hk.2⟩⟩⟩, fun e_ => (hk.1.1.2) (by rw [e_]; rfl)⟩)))) (fun _ hk => hk); have hx72_0 := hcc72 0 _ rfl; (try simp only [show (k27).sz = 2 from rfl, Nat.mul_one, Nat.add_zero] at hx72_0); have hf72_0 := hfr72 0; (try simp only [show (k27).sz = 2 from rfl, Nat.mul_one, Nat.add_zero] at hf72_0); have hx72_1 := hcc72 1 _ rfl; (try simp only [show (k27).sz = 2 from rfl, Nat.mul_one, Nat.add_zero] at hx72_1); have hf72_1 := hfr72 1; (try simp only [show (k27).sz = 2 from rfl, Nat.mul_one, Nat.add_zero] at hf72_1); clear hcl72 hcc72 hfr72 hM72) | ((with_reducible refine gate_store (t := 27) (p := 103) rfl ?_); refine store_event (t := 27) (p := 103) (v := ?vo_w73) (w1 := ((w69.setCell ⟨go66, (t277 : Int).toNat * 2, none⟩ (.int .i64 1)).setCell ⟨go66, (t277 : Int).toNat * 2 + 1, none⟩ (.slice Ao71 y280.length co71))) ?hg ?ho ?hn ?hr ?_; (case ho => rfl); (case hg => rfl); (case hn => rfl); (case hr => first | (go_simp; done) | (go_simp; rfl)); intro w73 hw; have hg : w69.grownBy w73 (some go66) := (by rw [hw]; exact HP72.2); have hp_ : Kd.N k27 27 w73 w.heap.size (fun k_ => some k_ ≠ (.slice Ao43 x250001_10.length co43 : Value).ownBlock ∧ some k_ ≠ (.slice Ao51 t268.length co51 : Value).ownBlock ∧ k_ ≠ gb249 ∧ k_ ≠ gb272) (.slice (some ⟨go66, 0, none⟩) x9_10.length co44) y283 := (by rw [hw, Ny283.out]; exact HP72.1); clear HP72; have n0_ := Aside0.mk (hp_); have n1_ := Aside0.mk (Kd.R_over' (v := (.slice (some ⟨go66, 0, none⟩) x9_10.length co44)) (by (with_reducible repeat (first | apply Kd.R_alloc | apply Kd.R_drewN | apply Kd.R_drew)); exact HO_250001.out) (Kd.N_typed HO_9.out) (by decide) hg); have n2_ := Aside0.mk (Kd.R_over' (v := (.slice (some ⟨go66, 0, none⟩) x9_10.length co44)) (by (with_reducible repeat (first | apply Kd.R_alloc | apply Kd.R_drewN | apply Kd.R_drew)); exact HO_273001.out) (Kd.N_typed HO_9.out) (by decide) hg); have n3_ := Aside0.mk (blk_grown (g := gb249) (o := .cells #[.int .i64 10, .slice Ao43 x250001_10.length co43] 30 (0, 0)) (by (with_reducible repeat (first | refine blk_drewN ?_ _ | refine blk_drew ?_ | refine blk_alloc ?_ _)); exact BK249.out) hg (Kd.N_ne HO_9.out BK249.out (by decide))); have n4_ := Aside0.mk (blk_grown (g := gb272) (o := .cells #[.int .i64 t267, .slice Ao51 t268.length co51] 27 (0, 0)) (by (with_reducible repeat (first | refine blk_drewN ?_ _ | refine blk_drew ?_ | refine blk_alloc ?_ _)); exact BK272.out) hg (Kd.N_away HO_9.out (fun _ hk => hk.2.2.2.2))); have n5_ := Aside0.mk (Kd.V_afterv (v := (.slice (some ⟨go66, 0, none⟩) x9_10.length co44)) (v1 := (.slice (some ⟨go66, 0, none⟩) x9_10.length co44)) (ok := (fun k_ => some k_ ≠ (.slice Ao43 x250001_10.length co43 : Value).ownBlock ∧ some k_ ≠ (.slice Ao51 t268.length co51 : Value).ownBlock ∧ some k_ ≠ (.slice Ao71 y280.length co71 : Value).ownBlock ∧ k_ ≠ gb249 ∧ k_ ≠ gb272)) (by (with_reducible repeat (first | apply Kd.V_alloc | apply Kd.V_drewN | apply Kd.V_drew)); exact Kd.V_mono HL278_1.out (fun _ hk => ⟨⟨hk.1.1.1, ⟨hk.1.1.2.1, ⟨hk.2, ⟨hk.1.1.2.2.1, hk.1.1.2.2.2⟩⟩⟩⟩, hk.1.2⟩)) hg (.inl rfl)); have n6_ := Aside0.mk ((by rw [hw]; exact below_set (below_set (HB.out) GB66.out) GB66.out : Below w.heap.size w w73)); clear HO_9; clear HO_250001; clear HO_273001; clear BK249; clear BK272; clear HL278_1; clear HB; clear HO282; have HO_9 := n0_; have HO_250001 := n1_; have HO_273001 := n2_; have BK249 := n3_; have BK272 := n4_; have HL278_1 := n5_; have HB := n6_; clear n0_ n1_ n2_ n3_ n4_ n5_ n6_; clear hg hw hp_))
                        have n0_ := Aside0.mk (Kd.N_drew HO_9.out)
                        have n1_ := Aside0.mk (Kd.R_drew HO_250001.out)
                        have n2_ := Aside0.mk (Kd.R_drew HO_273001.out)
                        have n3_ := Aside0.mk (Kd.V_drew HL278_1.out)
                        have n4_ := Aside0.mk (blk_drew BK249.out)
                        have n5_ := Aside0.mk (blk_drew BK272.out)
                        have n6_ := Aside0.mk (below_drew1 HB.out)
                        clear HO_9
                        clear HO_250001
                        clear HO_273001
                        clear HL278_1
                        clear BK249
                        clear BK272
                        clear HB
                        have HO_9 := n0_
                        have HO_250001 := n1_
                        have HO_273001 := n2_
                        have HL278_1 := n3_
                        have BK249 := n4_
                        have BK272 := n5_
                        have HB := n6_
                        clear n0_ n1_ n2_ n3_ n4_ n5_ n6_
                        refine start_ (n := 11) (S := fun w' => w'.cell? ⟨gb249, 0, none⟩ = some (.int .i64 10) ∧ w'.cell? ⟨gb249, 1, none⟩ = some (.slice Ao43 x250001_10.length co43)) (ds := []) #[false, false, false, false, false, false, false, false, false, false, false] (by kernel_rfl) rfl rfl ⟨(blk_cell BK249.out 0).trans rfl, (blk_cell BK249.out 1).trans rfl⟩ (fun hHeld => ?_); refine with_tabW interlocutorlaw8_ActGroups.tab19 interlocutorlaw8_ActGroups.bits19 (fun HT_ HW_ => ?_)
                        generalize w73.drew = w74 at HO_9 HO_250001 HO_273001 HL278_1 BK249 BK272 HB hHeld ⊢
                        refine pure_ (i := 1) (N := some 106) (v := ?_) (a' := ?_) #[false, true, false, false, false, false, false, false, false, false, false] rfl rfl (any_of HT_.out (by kernel_rfl)) (fun _ _ _ h => h) (Or.inl ⟨by rfl, ?_⟩) ?_ ?_
                        rotate_left
                        · intro w'
                          go_simp
                          with_reducible rfl
                        rotate_left
                        · simp only [Act.put, List.setIfInBounds_toArray, List.set_cons_zero, List.set_cons_succ, i64_w, i32_w]
                          rfl
                        refine pure_ (i := 2) (N := some 107) (v := ?_) (a' := ?_) #[false, true, true, false, false, false, false, false, false, false, false] rfl rfl (any_of HT_.out (by kernel_rfl)) (fun _ _ _ h => h) (Or.inl ⟨by rfl, ?_⟩) ?_ ?_
                        rotate_left
                        · intro w'
                          go_simp
                          with_reducible rfl
                        rotate_left
                        · simp only [Act.put, List.setIfInBounds_toArray, List.set_cons_zero, List.set_cons_succ, i64_w, i32_w]
                          rfl
                        refine take_ (i := 0) (N := some 105) (v := ?_) (a' := ?_) #[true, true, true, false, false, false, false, false, false, false, false] rfl rfl (take_ofW HT_.out HW_.out (by kernel_rfl)) (fun _ _ _ h => h) (Or.inl ⟨by rfl, ?_⟩) hHeld ?_ ?_
                        rotate_left
                        · rintro w' ⟨s0, s1⟩
                          go_simp
                          with_reducible rfl
                        rotate_left
                        · simp only [Act.put, List.setIfInBounds_toArray, List.set_cons_zero, List.set_cons_succ, i64_w, i32_w]
                          rfl
                        refine join_ (σ := Value × Nat) 2 #[true, true, true, true, true, true, true, true, true, false, false] (fun s_ => [(108, .agg #[.int .i64 t284, .int .i64 t285, .int .i64 t286, .int .i64 t287, .int .i64 t288, .int .i64 t289]), (109, .tuple #[.agg #[.int .i64 t290, s_.1], .bool t294]), (16, .pointer (some ⟨s_.2, 0, none⟩)), (104, .tuple #[.agg #[.int .i64 t290, s_.1], .bool t294]), (110, .agg #[.int .i64 t290, s_.1]), (111, .bool t294)]) (fun s_ w' => (w'.cell? ⟨gb249, 0, none⟩ = some (.int .i64 10) ∧ w'.cell? ⟨gb249, 1, none⟩ = some (.slice Ao43 x250001_10.length co43)) ∧ (Kd.V (Kd.int .i64) 3 w' w.heap.size (fun k_ => some k_ ≠ (s_.1 : Value).ownBlock ∧ some k_ ≠ (.slice Ao43 x250001_10.length co43 : Value).ownBlock ∧ some k_ ≠ (.slice Ao51 t268.length co51 : Value).ownBlock ∧ some k_ ≠ (.slice (some ⟨go66, 0, none⟩) x9_10.length co44 : Value).ownBlock ∧ k_ ≠ gb249 ∧ k_ ≠ gb272 ∧ k_ ≠ s_.2) (.slice (some ad279) ((rd_T27 x9_10 t277).f1).length c278_1) ((rd_T27 x9_10 t277).f1)) ∧ (Kd.R (Kd.int .i64) 3 w' w.heap.size (fun k_ => some k_ ≠ (.slice Ao43 x250001_10.length co43 : Value).ownBlock ∧ some k_ ≠ (.slice Ao51 t268.length co51 : Value).ownBlock) s_.1 t291) ∧ (Kd.R (Kd.int .i64) 3 w' w.heap.size (fun k_ => some k_ ≠ (s_.1 : Value).ownBlock ∧ some k_ ≠ (.slice Ao51 t268.length co51 : Value).ownBlock) (.slice Ao43 x250001_10.length co43) x250001_10) ∧ (Kd.R (Kd.int .i64) 3 w' w.heap.size (fun k_ => some k_ ≠ (s_.1 : Value).ownBlock ∧ some k_ ≠ (.slice Ao43 x250001_10.length co43 : Value).ownBlock) (.slice Ao51 t268.length co51) t268) ∧ (Kd.N k27 27 w' w.heap.size (fun k_ => some k_ ≠ (s_.1 : Value).ownBlock ∧ some k_ ≠ (.slice Ao43 x250001_10.length co43 : Value).ownBlock ∧ some k_ ≠ (.slice Ao51 t268.length co51 : Value).ownBlock ∧ k_ ≠ gb249 ∧ k_ ≠ gb272 ∧ k_ ≠ s_.2) (.slice (some ⟨go66, 0, none⟩) x9_10.length co44) y283) ∧ (w'.heap[gb249]? = some (.cells #[.int .i64 10, .slice Ao43 x250001_10.length co43] 30 (0, 0))) ∧ (w'.heap[gb272]? = some (.cells #[.int .i64 t267, .slice Ao51 t268.length co51] 27 (0, 0))) ∧ (w'.heap[s_.2]? = some (.cells #[.int .i64 0, .slice none 0 0] 27 (0, 0))) ∧ (w.heap.size ≤ s_.2) ∧ (w.heap.size ≤ s_.2) ∧ (gb249 ≠ s_.2) ∧ (s_.2 ≠ gb249) ∧ (gb272 ≠ s_.2) ∧ (s_.2 ≠ gb272) ∧ (Below w.heap.size w w')) ?_ ?_
                        rotate_left
                        · intro hCont
                          refine two_ (i := 3) (j := 8) (Ni := some 108) (Nj := some 16) #[true, true, true, true, false, false, false, false, false, false, false] #[true, true, true, false, false, false, false, false, true, false, false] rfl rfl rfl rfl (two_of HT_.out (by kernel_rfl)) (by decide) (by decide) (fun K hK => ?_) (fun K hK => ?_)
                          · skip
                            refine goes_ Try.func21 (by kernel_rfl) rfl #[.int .i64 a1] (by rfl) rfl rfl (by (try simp only [List.map_toArray, List.map_cons, List.map_nil]); first | done | rfl | (simp only [List.length_drop, List.length_take]; rfl)) ?_
                            with_reducible refine (interlocutorlaw8_Ref.calls a1 t284 t285 t286 t287 t288 t289 _ A67.out).mono ?_
                            rintro e w75 ⟨rfl, hb⟩
                            refine ⟨_, rfl, ?_⟩
                            have n0_ := Aside0.mk (Kd.N_below (by (with_reducible repeat (first | apply Kd.N_alloc | apply Kd.N_drewN | apply Kd.N_drew)); exact HO_9.out) hb)
                            have n1_ := Aside0.mk (Kd.R_below (by (with_reducible repeat (first | apply Kd.R_alloc | apply Kd.R_drewN | apply Kd.R_drew)); exact HO_250001.out) hb)
                            have n2_ := Aside0.mk (Kd.R_below (by (with_reducible repeat (first | apply Kd.R_alloc | apply Kd.R_drewN | apply Kd.R_drew)); exact HO_273001.out) hb)
                            have n3_ := Aside0.mk (Kd.V_below (by (with_reducible repeat (first | apply Kd.V_alloc | apply Kd.V_drewN | apply Kd.V_drew)); exact HL278_1.out) hb)
                            have n4_ := Aside0.mk (blk_below (g := gb249) (o := .cells #[.int .i64 10, .slice Ao43 x250001_10.length co43] 30 (0, 0)) (by (with_reducible repeat (first | refine blk_drewN ?_ _ | refine blk_drew ?_ | refine blk_alloc ?_ _)); exact BK249.out) hb)
                            have n5_ := Aside0.mk (blk_below (g := gb272) (o := .cells #[.int .i64 t267, .slice Ao51 t268.length co51] 27 (0, 0)) (by (with_reducible repeat (first | refine blk_drewN ?_ _ | refine blk_drew ?_ | refine blk_alloc ?_ _)); exact BK272.out) hb)
                            have n6_ := Aside0.mk (below_step (by repeat (first | (with_reducible first | exact HB.out | apply below_alloc | apply pw_below_drewN | apply below_drew1 | refine below_set ?_ GE249.out | refine below_set ?_ GE272.out) | exact HB.out)) hb)
                            clear HO_9
                            clear HO_250001
                            clear HO_273001
                            clear HL278_1
                            clear BK249
                            clear BK272
                            clear HB
                            have HO_9 := n0_
                            have HO_250001 := n1_
                            have HO_273001 := n2_
                            have HL278_1 := n3_
                            have BK249 := n4_
                            have BK272 := n5_
                            have HB := n6_
                            clear n0_ n1_ n2_ n3_ n4_ n5_ n6_
                            (try clear hb)
                            (try clear hb2)
                            (try clear hk)
                            (try clear hi)
                            refine hK.out _ _ ⟨(blk_cell BK249.out 0).trans rfl, (blk_cell BK249.out 1).trans rfl⟩ (fun hHeld => ?_)
                            clear hK K
                            refine norm_ (a' := ?_) ?_ ?_
                            rotate_left
                            · show Act.put _ (some 108) _ = _
                              simp only [Act.put, List.setIfInBounds_toArray, List.set_cons_zero, List.set_cons_succ, i64_w, i32_w]
                              rfl
                            refine two_ (i := 4) (j := 8) (Ni := some 109) (Nj := some 16) #[true, true, true, true, true, false, false, false, false, false, false] #[true, true, true, true, false, false, false, false, true, false, false] rfl rfl rfl rfl (two_of HT_.out (by kernel_rfl)) (by decide) (by decide) (fun K hK => ?_) (fun K hK => ?_)
                            · skip
                              refine goes_ Try.func22 (by kernel_rfl) rfl #[.agg #[.int .i64 10, .slice Ao43 x250001_10.length co43], .slice (some ⟨go66, 0, none⟩) y283.length co44, .agg #[.int .i64 t284, .int .i64 t285, .int .i64 t286, .int .i64 t287, .int .i64 t288, .int .i64 t289]] (by rfl) rfl rfl (by (try simp only [List.map_toArray, List.map_cons, List.map_nil]); first | done | (rw [show y283.length = x9_10.length from (Kd.N_reads' HO_9.out).1.symm] <;> rfl) | rfl | (simp only [List.length_drop, List.length_take]; rfl)) ?_
                              with_reducible refine (act_Do.calls kj41 10 _ _ x250001_10 _ _ y283 t284 t285 t286 t287 t288 t289 t290 t291 t294 _ ?side1 ?side2 ?side3 ?side4 A68.out).mono ?_
                              (case side1 => repeat (first | exact (Kd.R_reads' HO_250001.out).2.2 | (with_reducible refine Kd.C_alloc ?_ _) | (with_reducible refine Kd.C_drewN ?_ _) | (with_reducible refine Kd.C_drew ?_)))
                              (case side2 => exact (Kd.R_reads' HO_250001.out).2.1)
                              (case side3 => repeat (first | exact (Kd.N_reads' HO_9.out).2.2 | (with_reducible refine Kd.C_alloc ?_ _) | (with_reducible refine Kd.C_drewN ?_ _) | (with_reducible refine Kd.C_drew ?_)))
                              (case side4 => rw [show y283.length = x9_10.length from (Kd.N_reads' HO_9.out).1.symm]; exact (Kd.N_reads' HO_9.out).2.1)
                              rintro e w76 ⟨v292, rfl, ho0, hb⟩
                              refine ⟨_, rfl, ?_⟩
                              have n0_ := Aside0.mk (Kd.N_elder' (by (with_reducible repeat (first | apply Kd.N_alloc | apply Kd.N_drewN | apply Kd.N_drew)); exact HO_9.out) (Kd.R_base ho0) hb)
                              have n1_ := Aside0.mk (Kd.R_elder' (by (with_reducible repeat (first | apply Kd.R_alloc | apply Kd.R_drewN | apply Kd.R_drew)); exact HO_250001.out) (Kd.R_base ho0) hb)
                              have n2_ := Aside0.mk (Kd.R_elder' (by (with_reducible repeat (first | apply Kd.R_alloc | apply Kd.R_drewN | apply Kd.R_drew)); exact HO_273001.out) (Kd.R_base ho0) hb)
                              have n3_ := Aside0.mk (Kd.V_elder' (by (with_reducible repeat (first | apply Kd.V_alloc | apply Kd.V_drewN | apply Kd.V_drew)); exact HL278_1.out) (Kd.R_base ho0) hb)
                              have n4_ := Aside0.mk (Kd.R_lower (Kd.R_new' (Kd.R_new' ho0 (Kd.R_lt (by (with_reducible repeat (first | apply Kd.R_alloc | apply Kd.R_drewN | apply Kd.R_drew)); exact HO_250001.out))) (Kd.R_lt (by (with_reducible repeat (first | apply Kd.R_alloc | apply Kd.R_drewN | apply Kd.R_drew)); exact HO_273001.out))) (below_size (by repeat (first | (with_reducible first | exact HB.out | apply below_alloc | apply pw_below_drewN | apply below_drew1 | refine below_set ?_ GE249.out | refine below_set ?_ GE272.out) | exact HB.out))))
                              have n5_ := Aside0.mk (blk_below (g := gb249) (o := .cells #[.int .i64 10, .slice Ao43 x250001_10.length co43] 30 (0, 0)) (by (with_reducible repeat (first | refine blk_drewN ?_ _ | refine blk_drew ?_ | refine blk_alloc ?_ _)); exact BK249.out) hb)
                              have n6_ := Aside0.mk (blk_below (g := gb272) (o := .cells #[.int .i64 t267, .slice Ao51 t268.length co51] 27 (0, 0)) (by (with_reducible repeat (first | refine blk_drewN ?_ _ | refine blk_drew ?_ | refine blk_alloc ?_ _)); exact BK272.out) hb)
                              have n7_ := Aside0.mk (below_step (by repeat (first | (with_reducible first | exact HB.out | apply below_alloc | apply pw_below_drewN | apply below_drew1 | refine below_set ?_ GE249.out | refine below_set ?_ GE272.out) | exact HB.out)) hb)
                              clear HO_9
                              clear HO_250001
                              clear HO_273001
                              clear HL278_1
                              clear BK249
                              clear BK272
                              clear HB
                              have HO_9 := n0_
                              have HO_250001 := n1_
                              have HO_273001 := n2_
                              have HL278_1 := n3_
                              have HO293 := n4_
                              have BK249 := n5_
                              have BK272 := n6_
                              have HB := n7_
                              clear n0_ n1_ n2_ n3_ n4_ n5_ n6_ n7_
                              (try clear hb)
                              (try clear hb2)
                              (try clear hk)
                              (try clear hi)
                              (try clear ho0)
                              refine hK.out _ _ ⟨(blk_cell BK249.out 0).trans rfl, (blk_cell BK249.out 1).trans rfl⟩ (fun hHeld => ?_)
                              clear hK K
                              refine norm_ (a' := ?_) ?_ ?_
                              rotate_left
                              · show Act.put _ (some 109) _ = _
                                simp only [Act.put, List.setIfInBounds_toArray, List.set_cons_zero, List.set_cons_succ, i64_w, i32_w]
                                rfl
                              refine pure_ (i := 5) (N := some 104) (v := ?_) (a' := ?_) #[true, true, true, true, true, true, false, false, false, false, false] rfl rfl (any_of HT_.out (by kernel_rfl)) (fun _ _ _ h => h) (Or.inl ⟨by rfl, ?_⟩) ?_ ?_
                              rotate_left
                              · intro w'
                                go_simp
                                with_reducible rfl
                              rotate_left
                              · simp only [Act.put, List.setIfInBounds_toArray, List.set_cons_zero, List.set_cons_succ, i64_w, i32_w]
                                rfl
                              refine pure_ (i := 6) (N := some 110) (v := ?_) (a' := ?_) #[true, true, true, true, true, true, true, false, false, false, false] rfl rfl (any_of HT_.out (by kernel_rfl)) (fun _ _ _ h => h) (Or.inl ⟨by rfl, ?_⟩) ?_ ?_
                              rotate_left
                              · intro w'
                                go_simp
                                with_reducible rfl
                              rotate_left
                              · simp only [Act.put, List.setIfInBounds_toArray, List.set_cons_zero, List.set_cons_succ, i64_w, i32_w]
                                rfl
                              refine pure_ (i := 7) (N := some 111) (v := ?_) (a' := ?_) #[true, true, true, true, true, true, true, true, false, false, false] rfl rfl (any_of HT_.out (by kernel_rfl)) (fun _ _ _ h => h) (Or.inl ⟨by rfl, ?_⟩) ?_ ?_
                              rotate_left
                              · intro w'
                                go_simp
                                with_reducible rfl
                              rotate_left
                              · simp only [Act.put, List.setIfInBounds_toArray, List.set_cons_zero, List.set_cons_succ, i64_w, i32_w]
                                rfl
                              refine one_ (i := 8) (N := some 16) #[true, true, true, true, true, true, true, true, true, false, false] rfl rfl (one_of HT_.out (by kernel_rfl)) (by decide) (fun K hK => ?_)
                              refine box_step ?hg (N := 16) ?hd (cs := #[.int .i64 0, .slice none 0 0]) (t := 27) ?hr ?_; (case hd => rfl); (case hg => rfl); (case hr => first | (go_simp; done) | (go_simp; rfl))
                              intro gb295 hg w77 hbox hb
                              have n0_ := Aside0.mk (Kd.N_below (Kd.N_elderB (by (with_reducible repeat (first | apply Kd.N_alloc | apply Kd.N_drewN | apply Kd.N_drew)); exact HO_9.out) gb295 (Nat.le_of_eq hg.symm)) hb)
                              have n1_ := Aside0.mk (Kd.R_below (by (with_reducible repeat (first | apply Kd.R_alloc | apply Kd.R_drewN | apply Kd.R_drew)); exact HO_250001.out) hb)
                              have n2_ := Aside0.mk (Kd.R_below (by (with_reducible repeat (first | apply Kd.R_alloc | apply Kd.R_drewN | apply Kd.R_drew)); exact HO_273001.out) hb)
                              have n3_ := Aside0.mk (Kd.V_below (Kd.V_elderB (by (with_reducible repeat (first | apply Kd.V_alloc | apply Kd.V_drewN | apply Kd.V_drew)); exact HL278_1.out) gb295 (Nat.le_of_eq hg.symm)) hb)
                              have n4_ := Aside0.mk (Kd.R_below (by (with_reducible repeat (first | apply Kd.R_alloc | apply Kd.R_drewN | apply Kd.R_drew)); exact HO293.out) hb)
                              have n5_ := Aside0.mk (blk_below (g := gb249) (o := .cells #[.int .i64 10, .slice Ao43 x250001_10.length co43] 30 (0, 0)) (by (with_reducible repeat (first | refine blk_drewN ?_ _ | refine blk_drew ?_ | refine blk_alloc ?_ _)); exact BK249.out) hb)
                              have n6_ := Aside0.mk (blk_below (g := gb272) (o := .cells #[.int .i64 t267, .slice Ao51 t268.length co51] 27 (0, 0)) (by (with_reducible repeat (first | refine blk_drewN ?_ _ | refine blk_drew ?_ | refine blk_alloc ?_ _)); exact BK272.out) hb)
                              have n7_ := Aside0.mk (below_step (by repeat (first | (with_reducible first | exact HB.out | apply below_alloc | apply pw_below_drewN | apply below_drew1 | refine below_set ?_ GE249.out | refine below_set ?_ GE272.out) | exact HB.out)) hb)
                              have n8_ := Aside0.mk (hbox)
                              have n9_ := Aside0.mk ((by rw [hg]; exact (below_size (by repeat (first | (with_reducible first | exact HB.out | apply below_alloc | apply pw_below_drewN | apply below_drew1 | refine below_set ?_ GE249.out | refine below_set ?_ GE272.out) | exact HB.out))) : w.heap.size ≤ gb295))
                              have n10_ := Aside0.mk ((by rw [hg]; exact (below_size (by repeat (first | (with_reducible first | exact HB.out | apply below_alloc | apply pw_below_drewN | apply below_drew1 | refine below_set ?_ GE249.out | refine below_set ?_ GE272.out) | exact HB.out))) : w.heap.size ≤ gb295))
                              have n11_ := Aside0.mk ((by rw [hg]; exact Nat.ne_of_lt (blk_lt (g := gb249) (o := .cells #[.int .i64 10, .slice Ao43 x250001_10.length co43] 30 (0, 0)) (by (with_reducible repeat (first | refine blk_drewN ?_ _ | refine blk_drew ?_ | refine blk_alloc ?_ _)); exact BK249.out)) : gb249 ≠ gb295))
                              have n12_ := Aside0.mk ((by rw [hg]; exact Nat.ne_of_gt (blk_lt (g := gb249) (o := .cells #[.int .i64 10, .slice Ao43 x250001_10.length co43] 30 (0, 0)) (by (with_reducible repeat (first | refine blk_drewN ?_ _ | refine blk_drew ?_ | refine blk_alloc ?_ _)); exact BK249.out)) : gb295 ≠ gb249))
                              have n13_ := Aside0.mk ((by rw [hg]; exact Nat.ne_of_lt (blk_lt (g := gb272) (o := .cells #[.int .i64 t267, .slice Ao51 t268.length co51] 27 (0, 0)) (by (with_reducible repeat (first | refine blk_drewN ?_ _ | refine blk_drew ?_ | refine blk_alloc ?_ _)); exact BK272.out)) : gb272 ≠ gb295))
                              have n14_ := Aside0.mk ((by rw [hg]; exact Nat.ne_of_gt (blk_lt (g := gb272) (o := .cells #[.int .i64 t267, .slice Ao51 t268.length co51] 27 (0, 0)) (by (with_reducible repeat (first | refine blk_drewN ?_ _ | refine blk_drew ?_ | refine blk_alloc ?_ _)); exact BK272.out)) : gb295 ≠ gb272))
                              clear HO_9
                              clear HO_250001
                              clear HO_273001
                              clear HL278_1
                              clear HO293
                              clear BK249
                              clear BK272
                              clear HB
                              have HO_9 := n0_
                              have HO_250001 := n1_
                              have HO_273001 := n2_
                              have HL278_1 := n3_
                              have HO293 := n4_
                              have BK249 := n5_
                              have BK272 := n6_
                              have HB := n7_
                              have BK295 := n8_
                              have GW295 := n9_
                              have GE295 := n10_
                              have NB249_295 := n11_
                              have NB295_249 := n12_
                              have NB272_295 := n13_
                              have NB295_272 := n14_
                              clear n0_ n1_ n2_ n3_ n4_ n5_ n6_ n7_ n8_ n9_ n10_ n11_ n12_ n13_ n14_
                              clear hb hbox hg
                              refine hK.out _ _ ⟨(blk_cell BK249.out 0).trans rfl, (blk_cell BK249.out 1).trans rfl⟩ (fun hHeld => ?_)
                              clear hK K
                              refine norm_ (a' := ?_) ?_ ?_
                              rotate_left
                              · show Act.put _ (some 16) _ = _
                                simp only [Act.put, List.setIfInBounds_toArray, List.set_cons_zero, List.set_cons_succ, i64_w, i32_w]
                                rfl
                              exact norm_ (by simp only [putAll, Act.put, List.setIfInBounds_toArray, List.set_cons_zero, List.set_cons_succ]) (hCont (v292, gb295) _ ⟨hHeld, (by (with_reducible repeat (first | apply Kd.V_alloc | apply Kd.V_drewN | apply Kd.V_drew)); exact Kd.V_mono HL278_1.out (fun _ hk => ⟨hk.1.2, ⟨hk.1.1.1.1, ⟨hk.1.1.1.2.1, ⟨hk.1.1.2, ⟨hk.1.1.1.2.2.2.1, ⟨hk.1.1.1.2.2.2.2, hk.2⟩⟩⟩⟩⟩⟩)), (by (with_reducible repeat (first | apply Kd.R_alloc | apply Kd.R_drewN | apply Kd.R_drew)); exact Kd.R_mono HO293.out (fun _ hk => ⟨hk.1.2, hk.2⟩)), (by (with_reducible repeat (first | apply Kd.R_alloc | apply Kd.R_drewN | apply Kd.R_drew)); exact Kd.R_mono HO_250001.out (fun _ hk => ⟨hk.2, hk.1.1⟩)), (by (with_reducible repeat (first | apply Kd.R_alloc | apply Kd.R_drewN | apply Kd.R_drew)); exact Kd.R_mono HO_273001.out (fun _ hk => ⟨hk.2, hk.1.1⟩)), (by (with_reducible repeat (first | apply Kd.N_alloc | apply Kd.N_drewN | apply Kd.N_drew)); exact Kd.N_mono HO_9.out (fun _ hk => ⟨hk.1.2, ⟨hk.1.1.1, ⟨hk.1.1.2.1, ⟨hk.1.1.2.2.1, ⟨hk.1.1.2.2.2, hk.2⟩⟩⟩⟩⟩)), (by (with_reducible repeat (first | refine blk_drewN ?_ _ | refine blk_drew ?_ | refine blk_alloc ?_ _)); exact BK249.out), (by (with_reducible repeat (first | refine blk_drewN ?_ _ | refine blk_drew ?_ | refine blk_alloc ?_ _)); exact BK272.out), (by (with_reducible repeat (first | refine blk_drewN ?_ _ | refine blk_drew ?_ | refine blk_alloc ?_ _)); exact BK295.out), GW295.out, GE295.out, NB249_295.out, NB295_249.out, NB272_295.out, NB295_272.out, (by repeat (first | (with_reducible first | exact HB.out | apply below_alloc | apply pw_below_drewN | apply below_drew1 | refine below_set ?_ GE249.out | refine below_set ?_ GE272.out | refine below_set ?_ GE295.out) | exact HB.out))⟩)
                            · skip
                              refine box_step ?hg (N := 16) ?hd (cs := #[.int .i64 0, .slice none 0 0]) (t := 27) ?hr ?_; (case hd => rfl); (case hg => rfl); (case hr => first | (go_simp; done) | (go_simp; rfl))
                              intro gb295 hg w76 hbox hb
                              have n0_ := Aside0.mk (Kd.N_below (Kd.N_elderB (by (with_reducible repeat (first | apply Kd.N_alloc | apply Kd.N_drewN | apply Kd.N_drew)); exact HO_9.out) gb295 (Nat.le_of_eq hg.symm)) hb)
                              have n1_ := Aside0.mk (Kd.R_below (by (with_reducible repeat (first | apply Kd.R_alloc | apply Kd.R_drewN | apply Kd.R_drew)); exact HO_250001.out) hb)
                              have n2_ := Aside0.mk (Kd.R_below (by (with_reducible repeat (first | apply Kd.R_alloc | apply Kd.R_drewN | apply Kd.R_drew)); exact HO_273001.out) hb)
                              have n3_ := Aside0.mk (Kd.V_below (Kd.V_elderB (by (with_reducible repeat (first | apply Kd.V_alloc | apply Kd.V_drewN | apply Kd.V_drew)); exact HL278_1.out) gb295 (Nat.le_of_eq hg.symm)) hb)
                              have n4_ := Aside0.mk (blk_below (g := gb249) (o := .cells #[.int .i64 10, .slice Ao43 x250001_10.length co43] 30 (0, 0)) (by (with_reducible repeat (first | refine blk_drewN ?_ _ | refine blk_drew ?_ | refine blk_alloc ?_ _)); exact BK249.out) hb)
                              have n5_ := Aside0.mk (blk_below (g := gb272) (o := .cells #[.int .i64 t267, .slice Ao51 t268.length co51] 27 (0, 0)) (by (with_reducible repeat (first | refine blk_drewN ?_ _ | refine blk_drew ?_ | refine blk_alloc ?_ _)); exact BK272.out) hb)
                              have n6_ := Aside0.mk (below_step (by repeat (first | (with_reducible first | exact HB.out | apply below_alloc | apply pw_below_drewN | apply below_drew1 | refine below_set ?_ GE249.out | refine below_set ?_ GE272.out) | exact HB.out)) hb)
                              have n7_ := Aside0.mk (hbox)
                              have n8_ := Aside0.mk ((by rw [hg]; exact (below_size (by repeat (first | (with_reducible first | exact HB.out | apply below_alloc | apply pw_below_drewN | apply below_drew1 | refine below_set ?_ GE249.out | refine below_set ?_ GE272.out) | exact HB.out))) : w.heap.size ≤ gb295))
                              have n9_ := Aside0.mk ((by rw [hg]; exact (below_size (by repeat (first | (with_reducible first | exact HB.out | apply below_alloc | apply pw_below_drewN | apply below_drew1 | refine below_set ?_ GE249.out | refine below_set ?_ GE272.out) | exact HB.out))) : w.heap.size ≤ gb295))
                              have n10_ := Aside0.mk ((by rw [hg]; exact Nat.ne_of_lt (blk_lt (g := gb249) (o := .cells #[.int .i64 10, .slice Ao43 x250001_10.length co43] 30 (0, 0)) (by (with_reducible repeat (first | refine blk_drewN ?_ _ | refine blk_drew ?_ | refine blk_alloc ?_ _)); exact BK249.out)) : gb249 ≠ gb295))
                              have n11_ := Aside0.mk ((by rw [hg]; exact Nat.ne_of_gt (blk_lt (g := gb249) (o := .cells #[.int .i64 10, .slice Ao43 x250001_10.length co43] 30 (0, 0)) (by (with_reducible repeat (first | refine blk_drewN ?_ _ | refine blk_drew ?_ | refine blk_alloc ?_ _)); exact BK249.out)) : gb295 ≠ gb249))
                              have n12_ := Aside0.mk ((by rw [hg]; exact Nat.ne_of_lt (blk_lt (g := gb272) (o := .cells #[.int .i64 t267, .slice Ao51 t268.length co51] 27 (0, 0)) (by (with_reducible repeat (first | refine blk_drewN ?_ _ | refine blk_drew ?_ | refine blk_alloc ?_ _)); exact BK272.out)) : gb272 ≠ gb295))
                              have n13_ := Aside0.mk ((by rw [hg]; exact Nat.ne_of_gt (blk_lt (g := gb272) (o := .cells #[.int .i64 t267, .slice Ao51 t268.length co51] 27 (0, 0)) (by (with_reducible repeat (first | refine blk_drewN ?_ _ | refine blk_drew ?_ | refine blk_alloc ?_ _)); exact BK272.out)) : gb295 ≠ gb272))
                              clear HO_9
                              clear HO_250001
                              clear HO_273001
                              clear HL278_1
                              clear BK249
                              clear BK272
                              clear HB
                              have HO_9 := n0_
                              have HO_250001 := n1_
                              have HO_273001 := n2_
                              have HL278_1 := n3_
                              have BK249 := n4_
                              have BK272 := n5_
                              have HB := n6_
                              have BK295 := n7_
                              have GW295 := n8_
                              have GE295 := n9_
                              have NB249_295 := n10_
                              have NB295_249 := n11_
                              have NB272_295 := n12_
                              have NB295_272 := n13_
                              clear n0_ n1_ n2_ n3_ n4_ n5_ n6_ n7_ n8_ n9_ n10_ n11_ n12_ n13_
                              clear hb hbox hg
                              refine hK.out _ _ ⟨(blk_cell BK249.out 0).trans rfl, (blk_cell BK249.out 1).trans rfl⟩ (fun hHeld => ?_)
                              clear hK K
                              refine norm_ (a' := ?_) ?_ ?_
                              rotate_left
                              · show Act.put _ (some 16) _ = _
                                simp only [Act.put, List.setIfInBounds_toArray, List.set_cons_zero, List.set_cons_succ, i64_w, i32_w]
                                rfl
                              refine one_ (i := 4) (N := some 109) #[true, true, true, true, true, false, false, false, true, false, false] rfl rfl (one_of HT_.out (by kernel_rfl)) (by decide) (fun K hK => ?_)
                              refine goes_ Try.func22 (by kernel_rfl) rfl #[.agg #[.int .i64 10, .slice Ao43 x250001_10.length co43], .slice (some ⟨go66, 0, none⟩) y283.length co44, .agg #[.int .i64 t284, .int .i64 t285, .int .i64 t286, .int .i64 t287, .int .i64 t288, .int .i64 t289]] (by rfl) rfl rfl (by (try simp only [List.map_toArray, List.map_cons, List.map_nil]); first | done | (rw [show y283.length = x9_10.length from (Kd.N_reads' HO_9.out).1.symm] <;> rfl) | rfl | (simp only [List.length_drop, List.length_take]; rfl)) ?_
                              with_reducible refine (act_Do.calls kj41 10 _ _ x250001_10 _ _ y283 t284 t285 t286 t287 t288 t289 t290 t291 t294 _ ?side1 ?side2 ?side3 ?side4 A68.out).mono ?_
                              (case side1 => repeat (first | exact (Kd.R_reads' HO_250001.out).2.2 | (with_reducible refine Kd.C_alloc ?_ _) | (with_reducible refine Kd.C_drewN ?_ _) | (with_reducible refine Kd.C_drew ?_)))
                              (case side2 => exact (Kd.R_reads' HO_250001.out).2.1)
                              (case side3 => repeat (first | exact (Kd.N_reads' HO_9.out).2.2 | (with_reducible refine Kd.C_alloc ?_ _) | (with_reducible refine Kd.C_drewN ?_ _) | (with_reducible refine Kd.C_drew ?_)))
                              (case side4 => rw [show y283.length = x9_10.length from (Kd.N_reads' HO_9.out).1.symm]; exact (Kd.N_reads' HO_9.out).2.1)
                              rintro e w77 ⟨v292, rfl, ho0, hb⟩
                              refine ⟨_, rfl, ?_⟩
                              have n0_ := Aside0.mk (Kd.N_elder' (by (with_reducible repeat (first | apply Kd.N_alloc | apply Kd.N_drewN | apply Kd.N_drew)); exact HO_9.out) (Kd.R_base ho0) hb)
                              have n1_ := Aside0.mk (Kd.R_elder' (by (with_reducible repeat (first | apply Kd.R_alloc | apply Kd.R_drewN | apply Kd.R_drew)); exact HO_250001.out) (Kd.R_base ho0) hb)
                              have n2_ := Aside0.mk (Kd.R_elder' (by (with_reducible repeat (first | apply Kd.R_alloc | apply Kd.R_drewN | apply Kd.R_drew)); exact HO_273001.out) (Kd.R_base ho0) hb)
                              have n3_ := Aside0.mk (Kd.V_elder' (by (with_reducible repeat (first | apply Kd.V_alloc | apply Kd.V_drewN | apply Kd.V_drew)); exact HL278_1.out) (Kd.R_base ho0) hb)
                              have n4_ := Aside0.mk (Kd.R_lower (Kd.R_new' (Kd.R_new' ho0 (Kd.R_lt (by (with_reducible repeat (first | apply Kd.R_alloc | apply Kd.R_drewN | apply Kd.R_drew)); exact HO_250001.out))) (Kd.R_lt (by (with_reducible repeat (first | apply Kd.R_alloc | apply Kd.R_drewN | apply Kd.R_drew)); exact HO_273001.out))) (below_size (by repeat (first | (with_reducible first | exact HB.out | apply below_alloc | apply pw_below_drewN | apply below_drew1 | refine below_set ?_ GE249.out | refine below_set ?_ GE272.out | refine below_set ?_ GE295.out) | exact HB.out))))
                              have n5_ := Aside0.mk (blk_below (g := gb249) (o := .cells #[.int .i64 10, .slice Ao43 x250001_10.length co43] 30 (0, 0)) (by (with_reducible repeat (first | refine blk_drewN ?_ _ | refine blk_drew ?_ | refine blk_alloc ?_ _)); exact BK249.out) hb)
                              have n6_ := Aside0.mk (blk_below (g := gb272) (o := .cells #[.int .i64 t267, .slice Ao51 t268.length co51] 27 (0, 0)) (by (with_reducible repeat (first | refine blk_drewN ?_ _ | refine blk_drew ?_ | refine blk_alloc ?_ _)); exact BK272.out) hb)
                              have n7_ := Aside0.mk (blk_below (g := gb295) (o := .cells #[.int .i64 0, .slice none 0 0] 27 (0, 0)) (by (with_reducible repeat (first | refine blk_drewN ?_ _ | refine blk_drew ?_ | refine blk_alloc ?_ _)); exact BK295.out) hb)
                              have n8_ := Aside0.mk (below_step (by repeat (first | (with_reducible first | exact HB.out | apply below_alloc | apply pw_below_drewN | apply below_drew1 | refine below_set ?_ GE249.out | refine below_set ?_ GE272.out | refine below_set ?_ GE295.out) | exact HB.out)) hb)
                              clear HO_9
                              clear HO_250001
                              clear HO_273001
                              clear HL278_1
                              clear BK249
                              clear BK272
                              clear BK295
                              clear HB
                              have HO_9 := n0_
                              have HO_250001 := n1_
                              have HO_273001 := n2_
                              have HL278_1 := n3_
                              have HO293 := n4_
                              have BK249 := n5_
                              have BK272 := n6_
                              have BK295 := n7_
                              have HB := n8_
                              clear n0_ n1_ n2_ n3_ n4_ n5_ n6_ n7_ n8_
                              (try clear hb)
                              (try clear hb2)
                              (try clear hk)
                              (try clear hi)
                              (try clear ho0)
                              refine hK.out _ _ ⟨(blk_cell BK249.out 0).trans rfl, (blk_cell BK249.out 1).trans rfl⟩ (fun hHeld => ?_)
                              clear hK K
                              refine norm_ (a' := ?_) ?_ ?_
                              rotate_left
                              · show Act.put _ (some 109) _ = _
                                simp only [Act.put, List.setIfInBounds_toArray, List.set_cons_zero, List.set_cons_succ, i64_w, i32_w]
                                rfl
                              refine pure_ (i := 5) (N := some 104) (v := ?_) (a' := ?_) #[true, true, true, true, true, true, false, false, true, false, false] rfl rfl (any_of HT_.out (by kernel_rfl)) (fun _ _ _ h => h) (Or.inl ⟨by rfl, ?_⟩) ?_ ?_
                              rotate_left
                              · intro w'
                                go_simp
                                with_reducible rfl
                              rotate_left
                              · simp only [Act.put, List.setIfInBounds_toArray, List.set_cons_zero, List.set_cons_succ, i64_w, i32_w]
                                rfl
                              refine pure_ (i := 6) (N := some 110) (v := ?_) (a' := ?_) #[true, true, true, true, true, true, true, false, true, false, false] rfl rfl (any_of HT_.out (by kernel_rfl)) (fun _ _ _ h => h) (Or.inl ⟨by rfl, ?_⟩) ?_ ?_
                              rotate_left
                              · intro w'
                                go_simp
                                with_reducible rfl
                              rotate_left
                              · simp only [Act.put, List.setIfInBounds_toArray, List.set_cons_zero, List.set_cons_succ, i64_w, i32_w]
                                rfl
                              refine pure_ (i := 7) (N := some 111) (v := ?_) (a' := ?_) #[true, true, true, true, true, true, true, true, true, false, false] rfl rfl (any_of HT_.out (by kernel_rfl)) (fun _ _ _ h => h) (Or.inl ⟨by rfl, ?_⟩) ?_ ?_
                              rotate_left
                              · intro w'
                                go_simp
                                with_reducible rfl
                              rotate_left
                              · simp only [Act.put, List.setIfInBounds_toArray, List.set_cons_zero, List.set_cons_succ, i64_w, i32_w]
                                rfl
                              exact norm_ (by simp only [putAll, Act.put, List.setIfInBounds_toArray, List.set_cons_zero, List.set_cons_succ]) (hCont (v292, gb295) _ ⟨hHeld, (by (with_reducible repeat (first | apply Kd.V_alloc | apply Kd.V_drewN | apply Kd.V_drew)); exact Kd.V_mono HL278_1.out (fun _ hk => ⟨hk.2, ⟨hk.1.1.1.1, ⟨hk.1.1.1.2.1, ⟨hk.1.1.2, ⟨hk.1.1.1.2.2.2.1, ⟨hk.1.1.1.2.2.2.2, hk.1.2⟩⟩⟩⟩⟩⟩)), (by (with_reducible repeat (first | apply Kd.R_alloc | apply Kd.R_drewN | apply Kd.R_drew)); exact Kd.R_mono HO293.out (fun _ hk => ⟨hk.1.2, hk.2⟩)), (by (with_reducible repeat (first | apply Kd.R_alloc | apply Kd.R_drewN | apply Kd.R_drew)); exact Kd.R_mono HO_250001.out (fun _ hk => ⟨hk.2, hk.1.1⟩)), (by (with_reducible repeat (first | apply Kd.R_alloc | apply Kd.R_drewN | apply Kd.R_drew)); exact Kd.R_mono HO_273001.out (fun _ hk => ⟨hk.2, hk.1.1⟩)), (by (with_reducible repeat (first | apply Kd.N_alloc | apply Kd.N_drewN | apply Kd.N_drew)); exact Kd.N_mono HO_9.out (fun _ hk => ⟨hk.2, ⟨hk.1.1.1, ⟨hk.1.1.2.1, ⟨hk.1.1.2.2.1, ⟨hk.1.1.2.2.2, hk.1.2⟩⟩⟩⟩⟩)), (by (with_reducible repeat (first | refine blk_drewN ?_ _ | refine blk_drew ?_ | refine blk_alloc ?_ _)); exact BK249.out), (by (with_reducible repeat (first | refine blk_drewN ?_ _ | refine blk_drew ?_ | refine blk_alloc ?_ _)); exact BK272.out), (by (with_reducible repeat (first | refine blk_drewN ?_ _ | refine blk_drew ?_ | refine blk_alloc ?_ _)); exact BK295.out), GW295.out, GE295.out, NB249_295.out, NB295_249.out, NB272_295.out, NB295_272.out, (by repeat (first | (with_reducible first | exact HB.out | apply below_alloc | apply pw_below_drewN | apply below_drew1 | refine below_set ?_ GE249.out | refine below_set ?_ GE272.out | refine below_set ?_ GE295.out) | exact HB.out))⟩)
                          · skip
                            refine box_step ?hg (N := 16) ?hd (cs := #[.int .i64 0, .slice none 0 0]) (t := 27) ?hr ?_; (case hd => rfl); (case hg => rfl); (case hr => first | (go_simp; done) | (go_simp; rfl))
                            intro gb295 hg w75 hbox hb
                            have n0_ := Aside0.mk (Kd.N_below (Kd.N_elderB (by (with_reducible repeat (first | apply Kd.N_alloc | apply Kd.N_drewN | apply Kd.N_drew)); exact HO_9.out) gb295 (Nat.le_of_eq hg.symm)) hb)
                            have n1_ := Aside0.mk (Kd.R_below (by (with_reducible repeat (first | apply Kd.R_alloc | apply Kd.R_drewN | apply Kd.R_drew)); exact HO_250001.out) hb)
                            have n2_ := Aside0.mk (Kd.R_below (by (with_reducible repeat (first | apply Kd.R_alloc | apply Kd.R_drewN | apply Kd.R_drew)); exact HO_273001.out) hb)
                            have n3_ := Aside0.mk (Kd.V_below (Kd.V_elderB (by (with_reducible repeat (first | apply Kd.V_alloc | apply Kd.V_drewN | apply Kd.V_drew)); exact HL278_1.out) gb295 (Nat.le_of_eq hg.symm)) hb)
                            have n4_ := Aside0.mk (blk_below (g := gb249) (o := .cells #[.int .i64 10, .slice Ao43 x250001_10.length co43] 30 (0, 0)) (by (with_reducible repeat (first | refine blk_drewN ?_ _ | refine blk_drew ?_ | refine blk_alloc ?_ _)); exact BK249.out) hb)
                            have n5_ := Aside0.mk (blk_below (g := gb272) (o := .cells #[.int .i64 t267, .slice Ao51 t268.length co51] 27 (0, 0)) (by (with_reducible repeat (first | refine blk_drewN ?_ _ | refine blk_drew ?_ | refine blk_alloc ?_ _)); exact BK272.out) hb)
                            have n6_ := Aside0.mk (below_step (by repeat (first | (with_reducible first | exact HB.out | apply below_alloc | apply pw_below_drewN | apply below_drew1 | refine below_set ?_ GE249.out | refine below_set ?_ GE272.out) | exact HB.out)) hb)
                            have n7_ := Aside0.mk (hbox)
                            have n8_ := Aside0.mk ((by rw [hg]; exact (below_size (by repeat (first | (with_reducible first | exact HB.out | apply below_alloc | apply pw_below_drewN | apply below_drew1 | refine below_set ?_ GE249.out | refine below_set ?_ GE272.out) | exact HB.out))) : w.heap.size ≤ gb295))
                            have n9_ := Aside0.mk ((by rw [hg]; exact (below_size (by repeat (first | (with_reducible first | exact HB.out | apply below_alloc | apply pw_below_drewN | apply below_drew1 | refine below_set ?_ GE249.out | refine below_set ?_ GE272.out) | exact HB.out))) : w.heap.size ≤ gb295))
                            have n10_ := Aside0.mk ((by rw [hg]; exact Nat.ne_of_lt (blk_lt (g := gb249) (o := .cells #[.int .i64 10, .slice Ao43 x250001_10.length co43] 30 (0, 0)) (by (with_reducible repeat (first | refine blk_drewN ?_ _ | refine blk_drew ?_ | refine blk_alloc ?_ _)); exact BK249.out)) : gb249 ≠ gb295))
                            have n11_ := Aside0.mk ((by rw [hg]; exact Nat.ne_of_gt (blk_lt (g := gb249) (o := .cells #[.int .i64 10, .slice Ao43 x250001_10.length co43] 30 (0, 0)) (by (with_reducible repeat (first | refine blk_drewN ?_ _ | refine blk_drew ?_ | refine blk_alloc ?_ _)); exact BK249.out)) : gb295 ≠ gb249))
                            have n12_ := Aside0.mk ((by rw [hg]; exact Nat.ne_of_lt (blk_lt (g := gb272) (o := .cells #[.int .i64 t267, .slice Ao51 t268.length co51] 27 (0, 0)) (by (with_reducible repeat (first | refine blk_drewN ?_ _ | refine blk_drew ?_ | refine blk_alloc ?_ _)); exact BK272.out)) : gb272 ≠ gb295))
                            have n13_ := Aside0.mk ((by rw [hg]; exact Nat.ne_of_gt (blk_lt (g := gb272) (o := .cells #[.int .i64 t267, .slice Ao51 t268.length co51] 27 (0, 0)) (by (with_reducible repeat (first | refine blk_drewN ?_ _ | refine blk_drew ?_ | refine blk_alloc ?_ _)); exact BK272.out)) : gb295 ≠ gb272))
                            clear HO_9
                            clear HO_250001
                            clear HO_273001
                            clear HL278_1
                            clear BK249
                            clear BK272
                            clear HB
                            have HO_9 := n0_
                            have HO_250001 := n1_
                            have HO_273001 := n2_
                            have HL278_1 := n3_
                            have BK249 := n4_
                            have BK272 := n5_
                            have HB := n6_
                            have BK295 := n7_
                            have GW295 := n8_
                            have GE295 := n9_
                            have NB249_295 := n10_
                            have NB295_249 := n11_
                            have NB272_295 := n12_
                            have NB295_272 := n13_
                            clear n0_ n1_ n2_ n3_ n4_ n5_ n6_ n7_ n8_ n9_ n10_ n11_ n12_ n13_
                            clear hb hbox hg
                            refine hK.out _ _ ⟨(blk_cell BK249.out 0).trans rfl, (blk_cell BK249.out 1).trans rfl⟩ (fun hHeld => ?_)
                            clear hK K
                            refine norm_ (a' := ?_) ?_ ?_
                            rotate_left
                            · show Act.put _ (some 16) _ = _
                              simp only [Act.put, List.setIfInBounds_toArray, List.set_cons_zero, List.set_cons_succ, i64_w, i32_w]
                              rfl
                            refine one_ (i := 3) (N := some 108) #[true, true, true, true, false, false, false, false, true, false, false] rfl rfl (one_of HT_.out (by kernel_rfl)) (by decide) (fun K hK => ?_)
                            refine goes_ Try.func21 (by kernel_rfl) rfl #[.int .i64 a1] (by rfl) rfl rfl (by (try simp only [List.map_toArray, List.map_cons, List.map_nil]); first | done | rfl | (simp only [List.length_drop, List.length_take]; rfl)) ?_
                            with_reducible refine (interlocutorlaw8_Ref.calls a1 t284 t285 t286 t287 t288 t289 _ A67.out).mono ?_
                            rintro e w76 ⟨rfl, hb⟩
                            refine ⟨_, rfl, ?_⟩
                            have n0_ := Aside0.mk (Kd.N_below (by (with_reducible repeat (first | apply Kd.N_alloc | apply Kd.N_drewN | apply Kd.N_drew)); exact HO_9.out) hb)
                            have n1_ := Aside0.mk (Kd.R_below (by (with_reducible repeat (first | apply Kd.R_alloc | apply Kd.R_drewN | apply Kd.R_drew)); exact HO_250001.out) hb)
                            have n2_ := Aside0.mk (Kd.R_below (by (with_reducible repeat (first | apply Kd.R_alloc | apply Kd.R_drewN | apply Kd.R_drew)); exact HO_273001.out) hb)
                            have n3_ := Aside0.mk (Kd.V_below (by (with_reducible repeat (first | apply Kd.V_alloc | apply Kd.V_drewN | apply Kd.V_drew)); exact HL278_1.out) hb)
                            have n4_ := Aside0.mk (blk_below (g := gb249) (o := .cells #[.int .i64 10, .slice Ao43 x250001_10.length co43] 30 (0, 0)) (by (with_reducible repeat (first | refine blk_drewN ?_ _ | refine blk_drew ?_ | refine blk_alloc ?_ _)); exact BK249.out) hb)
                            have n5_ := Aside0.mk (blk_below (g := gb272) (o := .cells #[.int .i64 t267, .slice Ao51 t268.length co51] 27 (0, 0)) (by (with_reducible repeat (first | refine blk_drewN ?_ _ | refine blk_drew ?_ | refine blk_alloc ?_ _)); exact BK272.out) hb)
                            have n6_ := Aside0.mk (blk_below (g := gb295) (o := .cells #[.int .i64 0, .slice none 0 0] 27 (0, 0)) (by (with_reducible repeat (first | refine blk_drewN ?_ _ | refine blk_drew ?_ | refine blk_alloc ?_ _)); exact BK295.out) hb)
                            have n7_ := Aside0.mk (below_step (by repeat (first | (with_reducible first | exact HB.out | apply below_alloc | apply pw_below_drewN | apply below_drew1 | refine below_set ?_ GE249.out | refine below_set ?_ GE272.out | refine below_set ?_ GE295.out) | exact HB.out)) hb)
                            clear HO_9
                            clear HO_250001
                            clear HO_273001
                            clear HL278_1
                            clear BK249
                            clear BK272
                            clear BK295
                            clear HB
                            have HO_9 := n0_
                            have HO_250001 := n1_
                            have HO_273001 := n2_
                            have HL278_1 := n3_
                            have BK249 := n4_
                            have BK272 := n5_
                            have BK295 := n6_
                            have HB := n7_
                            clear n0_ n1_ n2_ n3_ n4_ n5_ n6_ n7_
                            (try clear hb)
                            (try clear hb2)
                            (try clear hk)
                            (try clear hi)
                            refine hK.out _ _ ⟨(blk_cell BK249.out 0).trans rfl, (blk_cell BK249.out 1).trans rfl⟩ (fun hHeld => ?_)
                            clear hK K
                            refine norm_ (a' := ?_) ?_ ?_
                            rotate_left
                            · show Act.put _ (some 108) _ = _
                              simp only [Act.put, List.setIfInBounds_toArray, List.set_cons_zero, List.set_cons_succ, i64_w, i32_w]
                              rfl
                            refine one_ (i := 4) (N := some 109) #[true, true, true, true, true, false, false, false, true, false, false] rfl rfl (one_of HT_.out (by kernel_rfl)) (by decide) (fun K hK => ?_)
                            refine goes_ Try.func22 (by kernel_rfl) rfl #[.agg #[.int .i64 10, .slice Ao43 x250001_10.length co43], .slice (some ⟨go66, 0, none⟩) y283.length co44, .agg #[.int .i64 t284, .int .i64 t285, .int .i64 t286, .int .i64 t287, .int .i64 t288, .int .i64 t289]] (by rfl) rfl rfl (by (try simp only [List.map_toArray, List.map_cons, List.map_nil]); first | done | (rw [show y283.length = x9_10.length from (Kd.N_reads' HO_9.out).1.symm] <;> rfl) | rfl | (simp only [List.length_drop, List.length_take]; rfl)) ?_
                            with_reducible refine (act_Do.calls kj41 10 _ _ x250001_10 _ _ y283 t284 t285 t286 t287 t288 t289 t290 t291 t294 _ ?side1 ?side2 ?side3 ?side4 A68.out).mono ?_
                            (case side1 => repeat (first | exact (Kd.R_reads' HO_250001.out).2.2 | (with_reducible refine Kd.C_alloc ?_ _) | (with_reducible refine Kd.C_drewN ?_ _) | (with_reducible refine Kd.C_drew ?_)))
                            (case side2 => exact (Kd.R_reads' HO_250001.out).2.1)
                            (case side3 => repeat (first | exact (Kd.N_reads' HO_9.out).2.2 | (with_reducible refine Kd.C_alloc ?_ _) | (with_reducible refine Kd.C_drewN ?_ _) | (with_reducible refine Kd.C_drew ?_)))
                            (case side4 => rw [show y283.length = x9_10.length from (Kd.N_reads' HO_9.out).1.symm]; exact (Kd.N_reads' HO_9.out).2.1)
                            rintro e w77 ⟨v292, rfl, ho0, hb⟩
                            refine ⟨_, rfl, ?_⟩
                            have n0_ := Aside0.mk (Kd.N_elder' (by (with_reducible repeat (first | apply Kd.N_alloc | apply Kd.N_drewN | apply Kd.N_drew)); exact HO_9.out) (Kd.R_base ho0) hb)
                            have n1_ := Aside0.mk (Kd.R_elder' (by (with_reducible repeat (first | apply Kd.R_alloc | apply Kd.R_drewN | apply Kd.R_drew)); exact HO_250001.out) (Kd.R_base ho0) hb)
                            have n2_ := Aside0.mk (Kd.R_elder' (by (with_reducible repeat (first | apply Kd.R_alloc | apply Kd.R_drewN | apply Kd.R_drew)); exact HO_273001.out) (Kd.R_base ho0) hb)
                            have n3_ := Aside0.mk (Kd.V_elder' (by (with_reducible repeat (first | apply Kd.V_alloc | apply Kd.V_drewN | apply Kd.V_drew)); exact HL278_1.out) (Kd.R_base ho0) hb)
                            have n4_ := Aside0.mk (Kd.R_lower (Kd.R_new' (Kd.R_new' ho0 (Kd.R_lt (by (with_reducible repeat (first | apply Kd.R_alloc | apply Kd.R_drewN | apply Kd.R_drew)); exact HO_250001.out))) (Kd.R_lt (by (with_reducible repeat (first | apply Kd.R_alloc | apply Kd.R_drewN | apply Kd.R_drew)); exact HO_273001.out))) (below_size (by repeat (first | (with_reducible first | exact HB.out | apply below_alloc | apply pw_below_drewN | apply below_drew1 | refine below_set ?_ GE249.out | refine below_set ?_ GE272.out | refine below_set ?_ GE295.out) | exact HB.out))))
                            have n5_ := Aside0.mk (blk_below (g := gb249) (o := .cells #[.int .i64 10, .slice Ao43 x250001_10.length co43] 30 (0, 0)) (by (with_reducible repeat (first | refine blk_drewN ?_ _ | refine blk_drew ?_ | refine blk_alloc ?_ _)); exact BK249.out) hb)
                            have n6_ := Aside0.mk (blk_below (g := gb272) (o := .cells #[.int .i64 t267, .slice Ao51 t268.length co51] 27 (0, 0)) (by (with_reducible repeat (first | refine blk_drewN ?_ _ | refine blk_drew ?_ | refine blk_alloc ?_ _)); exact BK272.out) hb)
                            have n7_ := Aside0.mk (blk_below (g := gb295) (o := .cells #[.int .i64 0, .slice none 0 0] 27 (0, 0)) (by (with_reducible repeat (first | refine blk_drewN ?_ _ | refine blk_drew ?_ | refine blk_alloc ?_ _)); exact BK295.out) hb)
                            have n8_ := Aside0.mk (below_step (by repeat (first | (with_reducible first | exact HB.out | apply below_alloc | apply pw_below_drewN | apply below_drew1 | refine below_set ?_ GE249.out | refine below_set ?_ GE272.out | refine below_set ?_ GE295.out) | exact HB.out)) hb)
                            clear HO_9
                            clear HO_250001
                            clear HO_273001
                            clear HL278_1
                            clear BK249
                            clear BK272
                            clear BK295
                            clear HB
                            have HO_9 := n0_
                            have HO_250001 := n1_
                            have HO_273001 := n2_
                            have HL278_1 := n3_
                            have HO293 := n4_
                            have BK249 := n5_
                            have BK272 := n6_
                            have BK295 := n7_
                            have HB := n8_
                            clear n0_ n1_ n2_ n3_ n4_ n5_ n6_ n7_ n8_
                            (try clear hb)
                            (try clear hb2)
                            (try clear hk)
                            (try clear hi)
                            (try clear ho0)
                            refine hK.out _ _ ⟨(blk_cell BK249.out 0).trans rfl, (blk_cell BK249.out 1).trans rfl⟩ (fun hHeld => ?_)
                            clear hK K
                            refine norm_ (a' := ?_) ?_ ?_
                            rotate_left
                            · show Act.put _ (some 109) _ = _
                              simp only [Act.put, List.setIfInBounds_toArray, List.set_cons_zero, List.set_cons_succ, i64_w, i32_w]
                              rfl
                            refine pure_ (i := 5) (N := some 104) (v := ?_) (a' := ?_) #[true, true, true, true, true, true, false, false, true, false, false] rfl rfl (any_of HT_.out (by kernel_rfl)) (fun _ _ _ h => h) (Or.inl ⟨by rfl, ?_⟩) ?_ ?_
                            rotate_left
                            · intro w'
                              go_simp
                              with_reducible rfl
                            rotate_left
                            · simp only [Act.put, List.setIfInBounds_toArray, List.set_cons_zero, List.set_cons_succ, i64_w, i32_w]
                              rfl
                            refine pure_ (i := 6) (N := some 110) (v := ?_) (a' := ?_) #[true, true, true, true, true, true, true, false, true, false, false] rfl rfl (any_of HT_.out (by kernel_rfl)) (fun _ _ _ h => h) (Or.inl ⟨by rfl, ?_⟩) ?_ ?_
                            rotate_left
                            · intro w'
                              go_simp
                              with_reducible rfl
                            rotate_left
                            · simp only [Act.put, List.setIfInBounds_toArray, List.set_cons_zero, List.set_cons_succ, i64_w, i32_w]
                              rfl
                            refine pure_ (i := 7) (N := some 111) (v := ?_) (a' := ?_) #[true, true, true, true, true, true, true, true, true, false, false] rfl rfl (any_of HT_.out (by kernel_rfl)) (fun _ _ _ h => h) (Or.inl ⟨by rfl, ?_⟩) ?_ ?_
                            rotate_left
                            · intro w'
                              go_simp
                              with_reducible rfl
                            rotate_left
                            · simp only [Act.put, List.setIfInBounds_toArray, List.set_cons_zero, List.set_cons_succ, i64_w, i32_w]
                              rfl
                            exact norm_ (by simp only [putAll, Act.put, List.setIfInBounds_toArray, List.set_cons_zero, List.set_cons_succ]) (hCont (v292, gb295) _ ⟨hHeld, (by (with_reducible repeat (first | apply Kd.V_alloc | apply Kd.V_drewN | apply Kd.V_drew)); exact Kd.V_mono HL278_1.out (fun _ hk => ⟨hk.2, ⟨hk.1.1.1.1, ⟨hk.1.1.1.2.1, ⟨hk.1.1.2, ⟨hk.1.1.1.2.2.2.1, ⟨hk.1.1.1.2.2.2.2, hk.1.2⟩⟩⟩⟩⟩⟩)), (by (with_reducible repeat (first | apply Kd.R_alloc | apply Kd.R_drewN | apply Kd.R_drew)); exact Kd.R_mono HO293.out (fun _ hk => ⟨hk.1.2, hk.2⟩)), (by (with_reducible repeat (first | apply Kd.R_alloc | apply Kd.R_drewN | apply Kd.R_drew)); exact Kd.R_mono HO_250001.out (fun _ hk => ⟨hk.2, hk.1.1⟩)), (by (with_reducible repeat (first | apply Kd.R_alloc | apply Kd.R_drewN | apply Kd.R_drew)); exact Kd.R_mono HO_273001.out (fun _ hk => ⟨hk.2, hk.1.1⟩)), (by (with_reducible repeat (first | apply Kd.N_alloc | apply Kd.N_drewN | apply Kd.N_drew)); exact Kd.N_mono HO_9.out (fun _ hk => ⟨hk.2, ⟨hk.1.1.1, ⟨hk.1.1.2.1, ⟨hk.1.1.2.2.1, ⟨hk.1.1.2.2.2, hk.1.2⟩⟩⟩⟩⟩)), (by (with_reducible repeat (first | refine blk_drewN ?_ _ | refine blk_drew ?_ | refine blk_alloc ?_ _)); exact BK249.out), (by (with_reducible repeat (first | refine blk_drewN ?_ _ | refine blk_drew ?_ | refine blk_alloc ?_ _)); exact BK272.out), (by (with_reducible repeat (first | refine blk_drewN ?_ _ | refine blk_drew ?_ | refine blk_alloc ?_ _)); exact BK295.out), GW295.out, GE295.out, NB249_295.out, NB295_249.out, NB272_295.out, NB295_272.out, (by repeat (first | (with_reducible first | exact HB.out | apply below_alloc | apply pw_below_drewN | apply below_drew1 | refine below_set ?_ GE249.out | refine below_set ?_ GE272.out | refine below_set ?_ GE295.out) | exact HB.out))⟩)
                        rintro ⟨v292, gb295⟩ w78 ⟨hS_, h0_, h1_, h2_, h3_, h4_, h5_, h6_, h7_, h8_, h9_, h10_, h11_, h12_, h13_, h14_⟩
                        have n0_ : Aside0 (Kd.V (Kd.int .i64) 3 w78 w.heap.size (fun k_ => some k_ ≠ (v292 : Value).ownBlock ∧ some k_ ≠ (.slice Ao43 x250001_10.length co43 : Value).ownBlock ∧ some k_ ≠ (.slice Ao51 t268.length co51 : Value).ownBlock ∧ some k_ ≠ (.slice (some ⟨go66, 0, none⟩) x9_10.length co44 : Value).ownBlock ∧ k_ ≠ gb249 ∧ k_ ≠ gb272 ∧ k_ ≠ gb295) (.slice (some ad279) ((rd_T27 x9_10 t277).f1).length c278_1) ((rd_T27 x9_10 t277).f1)) := ⟨h0_⟩
                        have n1_ : Aside0 (Kd.R (Kd.int .i64) 3 w78 w.heap.size (fun k_ => some k_ ≠ (.slice Ao43 x250001_10.length co43 : Value).ownBlock ∧ some k_ ≠ (.slice Ao51 t268.length co51 : Value).ownBlock) v292 t291) := ⟨h1_⟩
                        have n2_ : Aside0 (Kd.R (Kd.int .i64) 3 w78 w.heap.size (fun k_ => some k_ ≠ (v292 : Value).ownBlock ∧ some k_ ≠ (.slice Ao51 t268.length co51 : Value).ownBlock) (.slice Ao43 x250001_10.length co43) x250001_10) := ⟨h2_⟩
                        have n3_ : Aside0 (Kd.R (Kd.int .i64) 3 w78 w.heap.size (fun k_ => some k_ ≠ (v292 : Value).ownBlock ∧ some k_ ≠ (.slice Ao43 x250001_10.length co43 : Value).ownBlock) (.slice Ao51 t268.length co51) t268) := ⟨h3_⟩
                        have n4_ : Aside0 (Kd.N k27 27 w78 w.heap.size (fun k_ => some k_ ≠ (v292 : Value).ownBlock ∧ some k_ ≠ (.slice Ao43 x250001_10.length co43 : Value).ownBlock ∧ some k_ ≠ (.slice Ao51 t268.length co51 : Value).ownBlock ∧ k_ ≠ gb249 ∧ k_ ≠ gb272 ∧ k_ ≠ gb295) (.slice (some ⟨go66, 0, none⟩) x9_10.length co44) y283) := ⟨h4_⟩
                        have n5_ : Aside0 (w78.heap[gb249]? = some (.cells #[.int .i64 10, .slice Ao43 x250001_10.length co43] 30 (0, 0))) := ⟨h5_⟩
                        have n6_ : Aside0 (w78.heap[gb272]? = some (.cells #[.int .i64 t267, .slice Ao51 t268.length co51] 27 (0, 0))) := ⟨h6_⟩
                        have n7_ : Aside0 (w78.heap[gb295]? = some (.cells #[.int .i64 0, .slice none 0 0] 27 (0, 0))) := ⟨h7_⟩
                        have n8_ : Aside0 (w.heap.size ≤ gb295) := ⟨h8_⟩
                        have n9_ : Aside0 (w.heap.size ≤ gb295) := ⟨h9_⟩
                        have n10_ : Aside0 (gb249 ≠ gb295) := ⟨h10_⟩
                        have n11_ : Aside0 (gb295 ≠ gb249) := ⟨h11_⟩
                        have n12_ : Aside0 (gb272 ≠ gb295) := ⟨h12_⟩
                        have n13_ : Aside0 (gb295 ≠ gb272) := ⟨h13_⟩
                        have n14_ : Aside0 (Below w.heap.size w w78) := ⟨h14_⟩
                        clear HO_9
                        clear HO_250001
                        clear HO_273001
                        clear HL278_1
                        clear BK249
                        clear BK272
                        clear HB
                        clear h0_ h1_ h2_ h3_ h4_ h5_ h6_ h7_ h8_ h9_ h10_ h11_ h12_ h13_ h14_
                        have HL278_1 := n0_
                        have HO293 := n1_
                        have HO_250001 := n2_
                        have HO_273001 := n3_
                        have HO_9 := n4_
                        have BK249 := n5_
                        have BK272 := n6_
                        have BK295 := n7_
                        have GW295 := n8_
                        have GE295 := n9_
                        have NB249_295 := n10_
                        have NB295_249 := n11_
                        have NB272_295 := n12_
                        have NB295_272 := n13_
                        have HB := n14_
                        clear n0_ n1_ n2_ n3_ n4_ n5_ n6_ n7_ n8_ n9_ n10_ n11_ n12_ n13_ n14_
                        have hHeld : w78.cell? ⟨gb249, 0, none⟩ = some (.int .i64 10) ∧ w78.cell? ⟨gb249, 1, none⟩ = some (.slice Ao43 x250001_10.length co43) := hS_
                        obtain ⟨Ao80, co80, eo80⟩ := Kd.R_slice HO293.out
                        (first | subst eo80 | (injection eo80 with f1_ f2_ f3_; have f4_ := f1_.symm; have f5_ := f3_.symm; clear f1_ f2_ f3_; subst f4_; subst f5_))
                        refine norm_ (a' := ?_) ?_ ?_
                        rotate_left
                        · simp only [putAll, Act.put, List.setIfInBounds_toArray, List.set_cons_zero, List.set_cons_succ]
                          rfl
                        refine one_ (i := 9) (N := none) #[true, true, true, true, true, true, true, true, true, true, false] rfl rfl (one_of HT_.out (by kernel_rfl)) (by decide) (fun K hK => ?_)
                        have hs79 : w78.cell? ⟨gb295, 0, none⟩ = some (.int .i64 0) := (blk_cell BK295.out 0).trans rfl
                        have hfs79 := blk_frozen BK295.out 0
                        have hns79_0 := NB249_295.out
                        have hns79_1 := NB272_295.out
                        have hms79_0 := NB295_249.out
                        have hms79_1 := NB295_272.out
                        have hs81 : w78.cell? ⟨gb295, 1, none⟩ = some (.slice none 0 0) := (blk_cell BK295.out 1).trans rfl
                        have hfs81 := blk_frozen BK295.out 1
                        have hns81_0 := NB249_295.out
                        have hns81_1 := NB272_295.out
                        have hms81_0 := NB295_249.out
                        have hms81_1 := NB295_272.out
                        refine skip_ (w1 := ?_) (by rfl) rfl ?_ ?_
                        rotate_left
                        · go_simp
                          rfl
                        refine hK.out _ _ ⟨((cell_far (p := ⟨gb295, _, none⟩) NB249_295.out _).trans (((cell_far (p := ⟨gb295, _, none⟩) NB249_295.out _).trans (hHeld.1)))), ((cell_far (p := ⟨gb295, _, none⟩) NB249_295.out _).trans (((cell_far (p := ⟨gb295, _, none⟩) NB249_295.out _).trans (hHeld.2))))⟩ (fun hHeld => ?_)
                        clear hK K
                        refine pure_ (i := 10) (N := some 17) (v := ?_) (a' := ?_) #[true, true, true, true, true, true, true, true, true, true, true] rfl rfl (any_of HT_.out (by kernel_rfl)) (fun _ _ _ h => h) (Or.inl ⟨by rfl, ?_⟩) ?_ ?_
                        rotate_left
                        · intro w'
                          go_simp
                          with_reducible rfl
                        rotate_left
                        · simp only [Act.put, List.setIfInBounds_toArray, List.set_cons_zero, List.set_cons_succ, i64_w, i32_w]
                          rfl
                        refine done_ (done_of HT_.out (by kernel_rfl)) ?_
                        try go_wp2
                        go_ret
                        exact ⟨by first | rfl | (simp [errW_none, errW_some] <;> rfl) | (simp only [← hji7]; first | rfl | (simp [errW_none, errW_some] <;> rfl)) | (simp [*, errW_none, errW_some] <;> rfl), by repeat (first | (with_reducible first | exact HB.out | apply below_alloc | apply pw_below_drewN | apply below_drew1 | refine below_set ?_ GE249.out | refine below_set ?_ GE272.out | refine below_set ?_ GE295.out) | exact HB.out)⟩
                      · rw [if_neg c65] at H
                        exact absurd H (by simp)
                    · rw [if_neg c64] at H
                      exact absurd H (by simp)
                  · rw [if_neg c63] at H
                    exact absurd H (by simp)
      · rw [if_neg c9] at H
        exact absurd H (by simp)
    · rw [if_neg c8] at H
      exact absurd H (by simp)
  · replace c5 := Bool.eq_false_iff.mpr c5
    subst c5
    have H1 : (some false) = some r := by rw [if_neg (show ¬ (false = true) by decide)] at H; exact H
    clear H
    have H := H1
    clear H1
    obtain rfl := Option.some.inj H
    go_enter Try.func9, Try.ntmps9
    go_wp2_with (first | ((with_reducible refine gate_callee (f := 17) rfl ?_); refine goesL_ (some 18) rfl rfl Try.func17 (by kernel_rfl) rfl #[] rfl (by (try simp only [List.map_toArray, List.map_cons, List.map_nil]); first | done | rfl | (simp only [List.length_drop, List.length_take]; rfl)) ?_; (with_reducible refine (interlocutorlaw8_known.calls  false _ A4.out).mono ?_); rintro e w82 ⟨rfl, hb⟩; refine ⟨_, rfl, ?_⟩; have n0_ := Aside0.mk (below_step (by repeat (first | (with_reducible first | exact HB.out | apply below_alloc | apply pw_below_drewN | apply below_drew1) | exact HB.out)) hb); clear HB; have HB := n0_; clear n0_; (try clear hb); (try clear hb2); (try clear hk); (try clear hi)))
    go_ret
    exact ⟨by first | rfl | (simp [errW_none, errW_some] <;> rfl) | (simp [*, errW_none, errW_some] <;> rfl), by repeat (first | (with_reducible first | exact HB.out | apply below_alloc | apply pw_below_drewN | apply below_drew1) | exact HB.out)⟩

/-- THE ONE PURE STATEMENT of interlocutorlaw8_ActGroups: yours. -/
def interlocutorlaw8_ActGroups.Pure : Prop := ∀ (l0 : List Int) (a1 : Int) (a2 : Int), l0.length ≤ maxLen → l0.length * 8 ≤ 140737488351232 → (∀ x ∈ l0, (Lit.int .i64 x).wf = true) → (Lit.int .i64 a1).wf = true → (Lit.int .i64 a2).wf = true → ∃ k, interlocutorlaw8_ActGroups.f k l0 a1 a2 = some true
theorem interlocutorlaw8_ActGroups.walk (P : interlocutorlaw8_ActGroups.Pure) (a0 : Option Addr) (len0 cap0 : Nat) (z0 : List Int) (a1 : Int) (a2 : Int) (w : World) (w0 : (a0 = none ∧ len0 = 0 ∧ cap0 = 0 ∧ z0 = []) ∨ ∃ x, a0 = some x ∧ len0 ≤ cap0 ∧ cap0 ≤ maxLen ∧ z0.length = cap0 ∧ (∀ i, i < z0.length → w.cell? (x.add i) = some (.int .i64 (z0.getD i 0))) ∧ ∀ n ∈ z0, (Lit.int .i64 n).wf = true) (y0 : len0 * 8 ≤ 140737488351232) (w1 : (Lit.int .i64 a1).wf = true) (w2 : (Lit.int .i64 a2).wf = true) :
    Calls Try.prog 9 #[.slice a0 len0 cap0, .int .i64 a1, .int .i64 a2] w fun e w' => e = .returned (.bool true) ∧ Below w.heap.size w w' := by
  obtain ⟨l0, rfl, hr0, hm0, hw0, hc0⟩ := ReadsInt.ofRowC w0
  obtain ⟨k, h⟩ := P l0 a1 a2 hm0 y0 hw0 w1 w2
  refine (interlocutorlaw8_ActGroups.calls k _ _ l0 a1 a2 true w (Kd.C_of_reads (d := (0 : Int)) (h1 := fun _ => rfl) hr0) hc0 h).mono ?_
  rintro e w' ⟨rfl, hd⟩
  exact ⟨rfl, hd⟩

end Go.Proofs.Ytldfljlklfhjkaa.PGr
