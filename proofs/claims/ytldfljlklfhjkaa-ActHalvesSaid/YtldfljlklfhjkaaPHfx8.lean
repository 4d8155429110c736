/- Each call of a function that is printed here answers what its plain Lean function answers; written by a program of this session (wip/myprint.py) over the kit's print. Conditions: that the plain function answers. -/
import Derived.Test.YtldfljlklfhjkaaPHfx0
import Derived.Test.YtldfljlklfhjkaaPHfx6
import Derived.Test.YtldfljlklfhjkaaPHfx7
namespace Go.Proofs.Ytldfljlklfhjkaa.PHf
open Go.RowKit Go.Proofs.YtldfljlklfhjkaaW.PrintWords Go.Proofs.YtldfljlklfhjkaaW.PrintLast Go.Proofs.YtldfljlklfhjkaaW.PrintMore
attribute [local go_sem] max2_int min2_int max_two min_two max_three min_three max_four min_four   -- for this text's walks alone
set_option linter.unusedVariables false
set_option linter.unusedSimpArgs false

/-! ### interlocutorlaw8_ActHalves: function 11 -/
mutual
def interlocutorlaw8_ActHalves.j0 : Nat → Int → Bool → Int → Int → Int → Option (Bool)
  | 0, _, _, _, _, _ => none
  | k + 1, x0, x3, x9, x10, x11 => (some (([(⟨1, (([mx x9 0, 2] : List Int))⟩ : S27), (⟨1, (([x10, 2] : List Int))⟩ : S27), (⟨2, (([x11] : List Int))⟩ : S27)] : List (S27)) : List (S27))).bind fun y235 => (if x3 = true then (interlocutorlaw8_ActHalves.j1 k x0 x9 x10 x11 y235 4 (([0, 1, 2] : List Int))) else (interlocutorlaw8_ActHalves.j1 k x0 x9 0 x11 y235 4 (([0, 2] : List Int))))
def interlocutorlaw8_ActHalves.j1 : Nat → Int → Int → Int → Int → List (S27) → Int → List Int → Option (Bool)
  | 0, _, _, _, _, _, _, _ => none
  | k + 1, x0, x9, x10, x11, x12, x242000, x242001 => (interlocutorlaw8_Ref.f x0).bind fun bt245 => ((act_Do.f k x242000 x242001 x12 bt245.1 bt245.2.1 bt245.2.2.1 bt245.2.2.2.1 bt245.2.2.2.2.1 bt245.2.2.2.2.2).bind fun bt251 => (if x9 < 1 then (some (!bt251.2.2)) else (if x9 > 12 then (some (!bt251.2.2)) else (if x10 > 59 then (some (!bt251.2.2)) else (if bt251.2.2 = true then ((interlocutorref10_Cmp.f k bt251.1 bt251.2.1 5 (([wrap64 ((Int.tmod x9 12) + (wrap64 (12 * x11))), x10, 0] : List Int))).bind fun t260 => (some (t260 == 0))) else (some false))))))
end
def interlocutorlaw8_ActHalves.f (k : Nat) (a0 : Int) (a1 : Int) (a2 : Bool) (a3 : Bool) : Option (Bool) := (interlocutorlaw8_known.f).bind fun t223 => (if t223 = true then ((interlocutorlaw8_within.f a0 15).bind fun t224 => ((interlocutorlaw8_within.f a1 70).bind fun t225 => (if a2 = true then (interlocutorlaw8_ActHalves.j0 k a0 a3 (wrap64 (t224 - 1)) t225 1) else (interlocutorlaw8_ActHalves.j0 k a0 a3 (wrap64 (t224 - 1)) t225 0)))) else (some false))
theorem interlocutorlaw8_ActHalves.mono_l : ∀ k, (∀ y0 y1 y2 y3 y4, LeO (interlocutorlaw8_ActHalves.j0 k y0 y1 y2 y3 y4) (interlocutorlaw8_ActHalves.j0 (k + 1) y0 y1 y2 y3 y4)) ∧ (∀ y0 y1 y2 y3 y4 y5 y6, LeO (interlocutorlaw8_ActHalves.j1 k y0 y1 y2 y3 y4 y5 y6) (interlocutorlaw8_ActHalves.j1 (k + 1) y0 y1 y2 y3 y4 y5 y6))
  | 0 => ⟨fun _ _ _ _ _ r h => by simp [interlocutorlaw8_ActHalves.j0] at h, fun _ _ _ _ _ _ _ r h => by simp [interlocutorlaw8_ActHalves.j1] at h⟩
  | k + 1 => by
    obtain ⟨ih0, ih1⟩ := interlocutorlaw8_ActHalves.mono_l k
    refine ⟨?_, ?_⟩
    · intro y0 y1 y2 y3 y4
      unfold interlocutorlaw8_ActHalves.j0
      repeat' first
      | (with_reducible exact ih0 _ _ _ _ _)
      | (with_reducible exact ih1 _ _ _ _ _ _ _)
      | (with_reducible exact act_Do.mono _ _ _ _ _ _ _ _ _ _)
      | (with_reducible exact interlocutorref10_Cmp.mono _ _ _ _ _)
      | (with_reducible exact LeO.refl _)
      | (with_reducible exact LeO.none _)
      | (with_reducible refine LeO.ite ?_ ?_)
      | (with_reducible refine LeO.bind ?_ (fun _ => ?_))
      | exact ih0 _ _ _ _ _
      | exact ih1 _ _ _ _ _ _ _
      | exact act_Do.mono _ _ _ _ _ _ _ _ _ _
      | exact interlocutorref10_Cmp.mono _ _ _ _ _
      | exact LeO.none _
      | refine LeO.ite ?_ ?_
      | refine LeO.bind ?_ (fun _ => ?_)
    · intro y0 y1 y2 y3 y4 y5 y6
      unfold interlocutorlaw8_ActHalves.j1
      repeat' first
      | (with_reducible exact ih0 _ _ _ _ _)
      | (with_reducible exact ih1 _ _ _ _ _ _ _)
      | (with_reducible exact act_Do.mono _ _ _ _ _ _ _ _ _ _)
      | (with_reducible exact interlocutorref10_Cmp.mono _ _ _ _ _)
      | (with_reducible exact LeO.refl _)
      | (with_reducible exact LeO.none _)
      | (with_reducible refine LeO.ite ?_ ?_)
      | (with_reducible refine LeO.bind ?_ (fun _ => ?_))
      | exact ih0 _ _ _ _ _
      | exact ih1 _ _ _ _ _ _ _
      | exact act_Do.mono _ _ _ _ _ _ _ _ _ _
      | exact interlocutorref10_Cmp.mono _ _ _ _ _
      | exact LeO.none _
      | refine LeO.ite ?_ ?_
      | refine LeO.bind ?_ (fun _ => ?_)
theorem interlocutorlaw8_ActHalves.mono : ∀ a0 a1 a2 a3 k, LeO (interlocutorlaw8_ActHalves.f k a0 a1 a2 a3) (interlocutorlaw8_ActHalves.f (k + 1) a0 a1 a2 a3) := by
  intro a0 a1 a2 a3 k
  obtain ⟨ih0, ih1⟩ := interlocutorlaw8_ActHalves.mono_l k
  unfold interlocutorlaw8_ActHalves.f
  repeat' first
      | (with_reducible exact ih0 _ _ _ _ _)
      | (with_reducible exact ih1 _ _ _ _ _ _ _)
      | (with_reducible exact act_Do.mono _ _ _ _ _ _ _ _ _ _)
      | (with_reducible exact interlocutorref10_Cmp.mono _ _ _ _ _)
      | (with_reducible exact LeO.refl _)
      | (with_reducible exact LeO.none _)
      | (with_reducible refine LeO.ite ?_ ?_)
      | (with_reducible refine LeO.bind ?_ (fun _ => ?_))
      | exact ih0 _ _ _ _ _
      | exact ih1 _ _ _ _ _ _ _
      | exact act_Do.mono _ _ _ _ _ _ _ _ _ _
      | exact interlocutorref10_Cmp.mono _ _ _ _ _
      | exact LeO.none _
      | refine LeO.ite ?_ ?_
      | refine LeO.bind ?_ (fun _ => ?_)
def interlocutorlaw8_ActHalves.T12 : Bool × List (List Nat × List Nat) := (true, [([], []), ([], []), ([], []), ([2], [2]), ([0, 1, 3, 3], [0, 1, 3]), ([4], [4]), ([5], [5]), ([5], [5]), ([], []), ([8, 6, 4, 0, 1, 2, 3, 4, 5, 6, 8], [6, 8]), ([7, 9, 0, 1, 2, 3, 4, 5, 6, 7, 8, 9], [7])])
def interlocutorlaw8_ActHalves.B12 : List Nat := [0, 0, 0, 4, 15, 31, 63, 63, 0, 383, 1023]
theorem interlocutorlaw8_ActHalves.tab12 : rtab .any (opsOf Try.f11 12) = interlocutorlaw8_ActHalves.T12 := by kernel_rfl
theorem interlocutorlaw8_ActHalves.bits12 : waitsOk interlocutorlaw8_ActHalves.T12.2 interlocutorlaw8_ActHalves.B12 = true := by kernel_rfl
set_option maxHeartbeats 8000000 in
set_option maxRecDepth 100000 in
theorem interlocutorlaw8_ActHalves.calls (k : Nat) (a0 : Int) (a1 : Int) (a2 : Bool) (a3 : Bool) (r : Bool) (w : World) (h : interlocutorlaw8_ActHalves.f k a0 a1 a2 a3 = some r) :
    Calls Try.prog 11 #[.int .i64 a0, .int .i64 a1, .bool a2, .bool a3] w fun e w' => e = .returned (.bool r) ∧ Below w.heap.size w w' := by
  have hu27 := Try.underlying27
  have hu30 := Try.underlying30
  have HB := Aside0.mk (Below.refl w.heap.size w)
  have H : ((interlocutorlaw8_known.f).bind fun t223 => (if t223 = true then ((interlocutorlaw8_within.f a0 15).bind fun t224 => ((interlocutorlaw8_within.f a1 70).bind fun t225 => (if a2 = true then (interlocutorlaw8_ActHalves.j0 k a0 a3 (wrap64 (t224 - 1)) t225 1) else (interlocutorlaw8_ActHalves.j0 k a0 a3 (wrap64 (t224 - 1)) t225 0)))) else (some false))) = some r := h
  clear h
  replace H := Option.bind_eq_some_iff.mp H
  obtain ⟨t223, A50, H⟩ := H
  replace H : (if t223 = true then ((interlocutorlaw8_within.f a0 15).bind fun t224 => ((interlocutorlaw8_within.f a1 70).bind fun t225 => (if a2 = true then (interlocutorlaw8_ActHalves.j0 k a0 a3 (wrap64 (t224 - 1)) t225 1) else (interlocutorlaw8_ActHalves.j0 k a0 a3 (wrap64 (t224 - 1)) t225 0)))) else (some false)) = some r := H
  have A5 := Aside0.mk A50
  clear A50
  by_cases c6 : t223 = true
  · subst c6
    have H1 : ((interlocutorlaw8_within.f a0 15).bind fun t224 => ((interlocutorlaw8_within.f a1 70).bind fun t225 => (if a2 = true then (interlocutorlaw8_ActHalves.j0 k a0 a3 (wrap64 (t224 - 1)) t225 1) else (interlocutorlaw8_ActHalves.j0 k a0 a3 (wrap64 (t224 - 1)) t225 0)))) = some r := by rw [if_pos rfl] at H; exact H
    clear H
    have H := H1
    clear H1
    replace H := Option.bind_eq_some_iff.mp H
    obtain ⟨t224, A70, H⟩ := H
    replace H : ((interlocutorlaw8_within.f a1 70).bind fun t225 => (if a2 = true then (interlocutorlaw8_ActHalves.j0 k a0 a3 (wrap64 (t224 - 1)) t225 1) else (interlocutorlaw8_ActHalves.j0 k a0 a3 (wrap64 (t224 - 1)) t225 0))) = some r := H
    have A7 := Aside0.mk A70
    clear A70
    replace H := Option.bind_eq_some_iff.mp H
    obtain ⟨t225, A80, H⟩ := H
    replace H : (if a2 = true then (interlocutorlaw8_ActHalves.j0 k a0 a3 (wrap64 (t224 - 1)) t225 1) else (interlocutorlaw8_ActHalves.j0 k a0 a3 (wrap64 (t224 - 1)) t225 0)) = some r := H
    have A8 := Aside0.mk A80
    clear A80
    have HC9 := Aside0.mk H
    clear H
    go_enter Try.func11, Try.ntmps11
    go_upto_if 23 with (first | ((with_reducible refine gate_callee (f := 17) rfl ?_); refine goesL_ (some 16) rfl rfl Try.func17 (by kernel_rfl) rfl #[] rfl (by (try simp only [List.map_toArray, List.map_cons, List.map_nil]); first | done | rfl | (simp only [List.length_drop, List.length_take]; rfl)) ?_; (with_reducible refine (interlocutorlaw8_known.calls  true _ A5.out).mono ?_); rintro e w10 ⟨rfl, hb⟩; refine ⟨_, rfl, ?_⟩; have n0_ := Aside0.mk (below_step (by repeat (first | (with_reducible first | exact HB.out | apply below_alloc | apply pw_below_drewN | apply below_drew1) | exact HB.out)) hb); clear HB; have HB := n0_; clear n0_; (try clear hb); (try clear hb2); (try clear hk); (try clear hi)) | ((with_reducible refine gate_callee (f := 18) rfl ?_); refine goesL_ (some 19) rfl rfl Try.func18 (by kernel_rfl) rfl #[.int .i64 a0, .int .i64 15] rfl (by (try simp only [List.map_toArray, List.map_cons, List.map_nil]); first | done | rfl | (simp only [List.length_drop, List.length_take]; rfl)) ?_; (with_reducible refine (interlocutorlaw8_within.calls a0 15 t224 _ A7.out).mono ?_); rintro e w' ⟨rfl, ⟨nd, rfl⟩⟩; refine ⟨_, rfl, ?_⟩) | ((with_reducible refine gate_callee (f := 18) rfl ?_); refine goesL_ (some 22) rfl rfl Try.func18 (by kernel_rfl) rfl #[.int .i64 a1, .int .i64 70] rfl (by (try simp only [List.map_toArray, List.map_cons, List.map_nil]); first | done | rfl | (simp only [List.length_drop, List.length_take]; rfl)) ?_; (with_reducible refine (interlocutorlaw8_within.calls a1 70 t225 _ A8.out).mono ?_); rintro e w' ⟨rfl, ⟨nd, rfl⟩⟩; refine ⟨_, rfl, ?_⟩))
    (try simp only [Act.put, List.setIfInBounds_toArray, List.set_cons_zero, List.set_cons_succ])
    go_cut [11] (fun v11 wc => ∃ (kq : Nat) (x11_8 : Int), v11 = .int .i64 x11_8 ∧ Aside0 (interlocutorlaw8_ActHalves.j0 kq a0 a3 (wrap64 (t224 - 1)) t225 x11_8 = some r) ∧ Aside0 (kq ≤ k) ∧ Aside0 (Below w.heap.size w wc))
    case first =>
      have H := HC9.out
      clear HC9
      by_cases c11 : a2 = true
      · subst c11
        have H1 : (interlocutorlaw8_ActHalves.j0 k a0 a3 (wrap64 (t224 - 1)) t225 1) = some r := by rw [if_pos rfl] at H; exact H
        clear H
        have H := H1
        clear H1
        have H' := Aside0.mk H
        clear H
        go_wp2
        go_meet
        case rel => exact ⟨_, (1), (by first | rfl | (simp; done) | (simp [*]; done)), H', ⟨by first | omega | exact Nat.le_refl _⟩, ⟨by repeat (first | (with_reducible first | exact HB.out | apply below_alloc | apply pw_below_drewN | apply below_drew1) | exact HB.out)⟩⟩
      · replace c11 := Bool.eq_false_iff.mpr c11
        subst c11
        have H1 : (interlocutorlaw8_ActHalves.j0 k a0 a3 (wrap64 (t224 - 1)) t225 0) = some r := by rw [if_neg (show ¬ (false = true) by decide)] at H; exact H
        clear H
        have H := H1
        clear H1
        have H' := Aside0.mk H
        clear H
        go_wp2
        go_meet
        case rel => exact ⟨_, (0), (by first | rfl | (simp; done) | (simp [*]; done)), H', ⟨by first | omega | exact Nat.le_refl _⟩, ⟨by repeat (first | (with_reducible first | exact HB.out | apply below_alloc | apply pw_below_drewN | apply below_drew1) | exact HB.out)⟩⟩
    case rest =>
      clear HC9
      try clear c1
      try clear p2
      try clear c6
      try clear p6
      try clear c11
      obtain ⟨kq, x11_8, rfl, HA, HJ8, HB⟩ := hcut
      cases kq with
      | zero => exact absurd HA.out (by simp [interlocutorlaw8_ActHalves.j0])
      | succ kj8 =>
        have H := HA.out
        clear HA
        simp only [interlocutorlaw8_ActHalves.j0] at H
        obtain ⟨ji12, hji12⟩ : ∃ j_ : Int, (mx (wrap64 (t224 - 1)) 0) = j_ := ⟨_, rfl⟩
        replace H : ((some (([(⟨1, (([ji12, 2] : List Int))⟩ : S27), (⟨1, (([t225, 2] : List Int))⟩ : S27), (⟨2, (([x11_8] : List Int))⟩ : S27)] : List (S27)) : List (S27))).bind fun y235 => (if a3 = true then (interlocutorlaw8_ActHalves.j1 kj8 a0 (wrap64 (t224 - 1)) t225 x11_8 y235 4 (([0, 1, 2] : List Int))) else (interlocutorlaw8_ActHalves.j1 kj8 a0 (wrap64 (t224 - 1)) 0 x11_8 y235 4 (([0, 2] : List Int))))) = some r := by first | (rw [hji12] at H; exact H) | (simp only [hji12] at H ⊢; exact H)
        have hji12_ : (if (wrap64 (t224 - 1)) < 0 then 0 else (wrap64 (t224 - 1))) = ji12 := hji12
        obtain ⟨y226, hy226⟩ : ∃ y_ : List Int, y_ = (([ji12, 2] : List Int)) := ⟨_, rfl⟩
        replace H : ((some (([(⟨1, y226⟩ : S27), (⟨1, (([t225, 2] : List Int))⟩ : S27), (⟨2, (([x11_8] : List Int))⟩ : S27)] : List (S27)) : List (S27))).bind fun y235 => (if a3 = true then (interlocutorlaw8_ActHalves.j1 kj8 a0 (wrap64 (t224 - 1)) t225 x11_8 y235 4 (([0, 1, 2] : List Int))) else (interlocutorlaw8_ActHalves.j1 kj8 a0 (wrap64 (t224 - 1)) 0 x11_8 y235 4 (([0, 2] : List Int))))) = some r := by first | (rw [hy226]; with_reducible exact H) | (have H2_ := (Option.bind_some _ _).symm.trans H; rw [hy226]; with_reducible exact H2_) | (have H2_ := (Option.bind_some _ _).symm.trans H; with_reducible exact H2_) | with_reducible exact H | (rw [hy226]; exact H) | exact H
        have Ny226 := Aside0.mk hy226
        clear hy226
        obtain ⟨y229, hy229⟩ : ∃ y_ : List Int, y_ = (([t225, 2] : List Int)) := ⟨_, rfl⟩
        replace H : ((some (([(⟨1, y226⟩ : S27), (⟨1, y229⟩ : S27), (⟨2, (([x11_8] : List Int))⟩ : S27)] : List (S27)) : List (S27))).bind fun y235 => (if a3 = true then (interlocutorlaw8_ActHalves.j1 kj8 a0 (wrap64 (t224 - 1)) t225 x11_8 y235 4 (([0, 1, 2] : List Int))) else (interlocutorlaw8_ActHalves.j1 kj8 a0 (wrap64 (t224 - 1)) 0 x11_8 y235 4 (([0, 2] : List Int))))) = some r := by first | (rw [hy229]; with_reducible exact H) | (have H2_ := (Option.bind_some _ _).symm.trans H; rw [hy229]; with_reducible exact H2_) | (have H2_ := (Option.bind_some _ _).symm.trans H; with_reducible exact H2_) | with_reducible exact H | (rw [hy229]; exact H) | exact H
        have Ny229 := Aside0.mk hy229
        clear hy229
        obtain ⟨y232, hy232⟩ : ∃ y_ : List Int, y_ = (([x11_8] : List Int)) := ⟨_, rfl⟩
        replace H : ((some (([(⟨1, y226⟩ : S27), (⟨1, y229⟩ : S27), (⟨2, y232⟩ : S27)] : List (S27)) : List (S27))).bind fun y235 => (if a3 = true then (interlocutorlaw8_ActHalves.j1 kj8 a0 (wrap64 (t224 - 1)) t225 x11_8 y235 4 (([0, 1, 2] : List Int))) else (interlocutorlaw8_ActHalves.j1 kj8 a0 (wrap64 (t224 - 1)) 0 x11_8 y235 4 (([0, 2] : List Int))))) = some r := by first | (rw [hy232]; with_reducible exact H) | (have H2_ := (Option.bind_some _ _).symm.trans H; rw [hy232]; with_reducible exact H2_) | (have H2_ := (Option.bind_some _ _).symm.trans H; with_reducible exact H2_) | with_reducible exact H | (rw [hy232]; exact H) | exact H
        have Ny232 := Aside0.mk hy232
        clear hy232
        obtain ⟨y235, hy235⟩ : ∃ y_ : List (S27), y_ = (([(⟨1, y226⟩ : S27), (⟨1, y229⟩ : S27), (⟨2, y232⟩ : S27)] : List (S27))) := ⟨_, rfl⟩
        replace H : (if a3 = true then (interlocutorlaw8_ActHalves.j1 kj8 a0 (wrap64 (t224 - 1)) t225 x11_8 y235 4 (([0, 1, 2] : List Int))) else (interlocutorlaw8_ActHalves.j1 kj8 a0 (wrap64 (t224 - 1)) 0 x11_8 y235 4 (([0, 2] : List Int)))) = some r := by first | (rw [hy235]; with_reducible exact H) | (have H2_ := (Option.bind_some _ _).symm.trans H; rw [hy235]; with_reducible exact H2_) | (have H2_ := (Option.bind_some _ _).symm.trans H; with_reducible exact H2_) | with_reducible exact H | (rw [hy235]; exact H) | exact H
        have Ny235 := Aside0.mk hy235
        clear hy235
        obtain ⟨y238, hy238⟩ : ∃ y_ : List Int, y_ = (([0, 2] : List Int)) := ⟨_, rfl⟩
        replace H : (if a3 = true then (interlocutorlaw8_ActHalves.j1 kj8 a0 (wrap64 (t224 - 1)) t225 x11_8 y235 4 (([0, 1, 2] : List Int))) else (interlocutorlaw8_ActHalves.j1 kj8 a0 (wrap64 (t224 - 1)) 0 x11_8 y235 4 y238)) = some r := by first | (rw [hy238]; with_reducible exact H) | (have H2_ := (Option.bind_some _ _).symm.trans H; rw [hy238]; with_reducible exact H2_) | (have H2_ := (Option.bind_some _ _).symm.trans H; with_reducible exact H2_) | with_reducible exact H | (rw [hy238]; exact H) | exact H
        have Ny238 := Aside0.mk hy238
        clear hy238
        have HC13 := Aside0.mk H
        clear H
        go_upto_if 37 with (first | ((with_reducible refine gate_dst (N := 26) rfl ?_); (try (refine gate_guard (by rfl) ?_; dsimp only)); refine Kd.R_lit (Kd.int .i64) _ 3 ?hg (N := 26) ?hd (xs := ([ji12, 2] : List Int)) (inner := [.int .i64 ji12, .int .i64 2]) (ok := fun _ => True) (okp := fun _ => True) ?hr ?hp (fun _ hk => hk) trivial (Below.refl _ _) (Nat.le_refl _) (by simp) ?_; (case hd => rfl); (case hg => rfl); (case hr => first | (go_simp; done) | (go_simp; rfl)); (case hp => exact (Reps.one (show Kd.M (Kd.int .i64) _ _ _ ji12 [.int .i64 ji12] from rfl) (Reps.one (show Kd.M (Kd.int .i64) _ _ _ 2 [.int .i64 2] from rfl) (Reps.none _ _)))); intro v227 w14 ho15 hb hg_ hnew_; clear hg_ hnew_; (first | rw [← Ny226.out] at ho15 | (simp only [Int.reduceToNat] at ho15; rw [← Ny226.out] at ho15)); have n0_ := Aside0.mk (Kd.R_lower ho15 (below_size (by repeat (first | (with_reducible first | exact HB.out | apply below_alloc | apply pw_below_drewN | apply below_drew1) | exact HB.out)))); have n1_ := Aside0.mk (below_step (by repeat (first | (with_reducible first | exact HB.out | apply below_alloc | apply pw_below_drewN | apply below_drew1) | exact HB.out)) hb); clear HB; have HO228 := n0_; have HB := n1_; clear n0_ n1_; clear hb ho15; obtain ⟨Ao16, co16, eo16⟩ := Kd.R_slice HO228.out; subst eo16) | ((with_reducible refine gate_dst (N := 29) rfl ?_); (try (refine gate_guard (by rfl) ?_; dsimp only)); refine Kd.R_lit (Kd.int .i64) _ 3 ?hg (N := 29) ?hd (xs := ([t225, 2] : List Int)) (inner := [.int .i64 t225, .int .i64 2]) (ok := fun _ => True) (okp := fun _ => True) ?hr ?hp (fun _ hk => hk) trivial (Below.refl _ _) (Nat.le_refl _) (by simp) ?_; (case hd => rfl); (case hg => rfl); (case hr => first | (go_simp; done) | (go_simp; rfl)); (case hp => exact (Reps.one (show Kd.M (Kd.int .i64) _ _ _ t225 [.int .i64 t225] from rfl) (Reps.one (show Kd.M (Kd.int .i64) _ _ _ 2 [.int .i64 2] from rfl) (Reps.none _ _)))); intro v230 w17 ho18 hb hg_ hnew_; clear hg_ hnew_; (first | rw [← Ny229.out] at ho18 | (simp only [Int.reduceToNat] at ho18; rw [← Ny229.out] at ho18)); have n0_ := Aside0.mk (Kd.R_elder' (by (with_reducible repeat (first | apply Kd.R_alloc | apply Kd.R_drewN | apply Kd.R_drew)); exact HO228.out) (Kd.R_base ho18) hb); have n1_ := Aside0.mk (Kd.R_lower (Kd.R_new' ho18 (Kd.R_lt (by (with_reducible repeat (first | apply Kd.R_alloc | apply Kd.R_drewN | apply Kd.R_drew)); exact HO228.out))) (below_size (by repeat (first | (with_reducible first | exact HB.out | apply below_alloc | apply pw_below_drewN | apply below_drew1) | exact HB.out)))); have n2_ := Aside0.mk (below_step (by repeat (first | (with_reducible first | exact HB.out | apply below_alloc | apply pw_below_drewN | apply below_drew1) | exact HB.out)) hb); clear HO228; clear HB; have HO228 := n0_; have HO231 := n1_; have HB := n2_; clear n0_ n1_ n2_; clear hb ho18; obtain ⟨Ao19, co19, eo19⟩ := Kd.R_slice HO231.out; subst eo19) | ((with_reducible refine gate_dst (N := 32) rfl ?_); (try (refine gate_guard (by rfl) ?_; dsimp only)); refine Kd.R_lit (Kd.int .i64) _ 3 ?hg (N := 32) ?hd (xs := ([x11_8] : List Int)) (inner := [.int .i64 x11_8]) (ok := fun _ => True) (okp := fun _ => True) ?hr ?hp (fun _ hk => hk) trivial (Below.refl _ _) (Nat.le_refl _) (by simp) ?_; (case hd => rfl); (case hg => rfl); (case hr => first | (go_simp; done) | (go_simp; rfl)); (case hp => exact (Reps.one (show Kd.M (Kd.int .i64) _ _ _ x11_8 [.int .i64 x11_8] from rfl) (Reps.none _ _))); intro v233 w20 ho21 hb hg_ hnew_; clear hg_ hnew_; (first | rw [← Ny232.out] at ho21 | (simp only [Int.reduceToNat] at ho21; rw [← Ny232.out] at ho21)); have n0_ := Aside0.mk (Kd.R_elder' (by (with_reducible repeat (first | apply Kd.R_alloc | apply Kd.R_drewN | apply Kd.R_drew)); exact HO228.out) (Kd.R_base ho21) hb); have n1_ := Aside0.mk (Kd.R_elder' (by (with_reducible repeat (first | apply Kd.R_alloc | apply Kd.R_drewN | apply Kd.R_drew)); exact HO231.out) (Kd.R_base ho21) hb); have n2_ := Aside0.mk (Kd.R_lower (Kd.R_new' (Kd.R_new' ho21 (Kd.R_lt (by (with_reducible repeat (first | apply Kd.R_alloc | apply Kd.R_drewN | apply Kd.R_drew)); exact HO228.out))) (Kd.R_lt (by (with_reducible repeat (first | apply Kd.R_alloc | apply Kd.R_drewN | apply Kd.R_drew)); exact HO231.out))) (below_size (by repeat (first | (with_reducible first | exact HB.out | apply below_alloc | apply pw_below_drewN | apply below_drew1) | exact HB.out)))); have n3_ := Aside0.mk (below_step (by repeat (first | (with_reducible first | exact HB.out | apply below_alloc | apply pw_below_drewN | apply below_drew1) | exact HB.out)) hb); clear HO228; clear HO231; clear HB; have HO228 := n0_; have HO231 := n1_; have HO234 := n2_; have HB := n3_; clear n0_ n1_ n2_ n3_; clear hb ho21; obtain ⟨Ao22, co22, eo22⟩ := Kd.R_slice HO234.out; subst eo22) | ((with_reducible refine gate_dst (N := 34) rfl ?_); (try (refine gate_guard (by rfl) ?_; dsimp only)); refine Kd.N_lit k27 _ 27 ?hg (N' := 34) ?hd (xs := ([(⟨1, y226⟩ : S27), (⟨1, y229⟩ : S27), (⟨2, y232⟩ : S27)] : List (S27))) (inner := [.int .i64 1, .slice Ao16 y226.length co16, .int .i64 1, .slice Ao19 y229.length co19, .int .i64 2, .slice Ao22 y232.length co22]) (ok := (fun _ => True)) (okp := (fun _ => True)) ?hr ?hp (fun _ hk => hk) ((show ∀ k_, w20.heap.size ≤ k_ → (fun _ => True) k_ from fun k_ hk => trivial) _ (Nat.le_refl _)) (Below.refl _ _) (Nat.le_refl _) (by simp) ?_; (case hd => rfl); (case hg => rfl); (case hr => first | (go_simp; done) | (go_simp; rfl)); (case hp => exact (Reps.c2 (show Kd.FK k27 _ _ (⟨1, y226⟩ : S27) [.int .i64 1, .slice Ao16 y226.length co16] from (k27_mkF _ _ (⟨1, y226⟩ : S27) (Kd.R_reads' (Kd.R_mono (ok' := (fun _ => True)) (HO228.out) (fun k_ hk => trivial))).2.1 (Kd.R_F (Kd.R_mono (ok' := (fun _ => True)) (HO228.out) (fun k_ hk => trivial))))) (Reps.c2 (show Kd.FK k27 _ _ (⟨1, y229⟩ : S27) [.int .i64 1, .slice Ao19 y229.length co19] from (k27_mkF _ _ (⟨1, y229⟩ : S27) (Kd.R_reads' (Kd.R_mono (ok' := (fun _ => True)) (HO231.out) (fun k_ hk => trivial))).2.1 (Kd.R_F (Kd.R_mono (ok' := (fun _ => True)) (HO231.out) (fun k_ hk => trivial))))) (Reps.c2 (show Kd.FK k27 _ _ (⟨2, y232⟩ : S27) [.int .i64 2, .slice Ao22 y232.length co22] from (k27_mkF _ _ (⟨2, y232⟩ : S27) (Kd.R_reads' (Kd.R_mono (ok' := (fun _ => True)) (HO234.out) (fun k_ hk => trivial))).2.1 (Kd.R_F (Kd.R_mono (ok' := (fun _ => True)) (HO234.out) (fun k_ hk => trivial))))) (Reps.none _ _))))); intro v236 w23 ho24 hb hg_ hnew_; clear hg_ hnew_; (first | rw [← Ny235.out] at ho24 | (simp only [Int.reduceToNat] at ho24; rw [← Ny235.out] at ho24)); have n0_ := Aside0.mk (Kd.N_lower ho24 (below_size (by repeat (first | (with_reducible first | exact HB.out | apply below_alloc | apply pw_below_drewN | apply below_drew1) | exact HB.out)))); have n1_ := Aside0.mk (below_step (by repeat (first | (with_reducible first | exact HB.out | apply below_alloc | apply pw_below_drewN | apply below_drew1) | exact HB.out)) hb); clear HB; clear HO228; clear HO231; clear HO234; have HO237 := n0_; have HB := n1_; clear n0_ n1_; clear hb ho24) | ((with_reducible refine gate_dst (N := 35) rfl ?_); (try (refine gate_guard (by rfl) ?_; dsimp only)); refine Kd.R_lit (Kd.int .i64) _ 3 ?hg (N := 35) ?hd (xs := ([0, 2] : List Int)) (inner := [.int .i64 0, .int .i64 2]) (ok := fun _ => True) (okp := fun _ => True) ?hr ?hp (fun _ hk => hk) trivial (Below.refl _ _) (Nat.le_refl _) (by simp) ?_; (case hd => rfl); (case hg => rfl); (case hr => first | (go_simp; done) | (go_simp; rfl)); (case hp => exact (Reps.one (show Kd.M (Kd.int .i64) _ _ _ 0 [.int .i64 0] from rfl) (Reps.one (show Kd.M (Kd.int .i64) _ _ _ 2 [.int .i64 2] from rfl) (Reps.none _ _)))); intro v239 w25 ho26 hb hg_ hnew_; clear hg_ hnew_; (first | rw [← Ny238.out] at ho26 | (simp only [Int.reduceToNat] at ho26; rw [← Ny238.out] at ho26)); have n0_ := Aside0.mk (Kd.N_elder' (by (with_reducible repeat (first | apply Kd.N_alloc | apply Kd.N_drewN | apply Kd.N_drew)); exact HO237.out) (Kd.R_base ho26) hb); have n1_ := Aside0.mk (Kd.R_lower ho26 (below_size (by repeat (first | (with_reducible first | exact HB.out | apply below_alloc | apply pw_below_drewN | apply below_drew1) | exact HB.out)))); have n2_ := Aside0.mk (below_step (by repeat (first | (with_reducible first | exact HB.out | apply below_alloc | apply pw_below_drewN | apply below_drew1) | exact HB.out)) hb); clear HO237; clear HB; have HO237 := n0_; have HO240 := n1_; have HB := n2_; clear n0_ n1_ n2_; clear hb ho26; obtain ⟨Ao27, co27, eo27⟩ := Kd.R_slice HO240.out; subst eo27) | ((with_reducible refine gate_dst (N := 13) rfl ?_); (try (refine gate_guard (by rfl) ?_; dsimp only)); refine box_event ?hg (N := 13) ?hd (cs := #[.int .i64 0, .slice none 0 0]) (t := 30) ?hr ?_; (case hd => rfl); (case hg => rfl); (case hr => first | (go_simp; done) | (go_simp; rfl)); intro gb241 hg w28 hbox hb; have n0_ := Aside0.mk (Kd.N_below (Kd.N_elderB (by (with_reducible repeat (first | apply Kd.N_alloc | apply Kd.N_drewN | apply Kd.N_drew)); exact HO237.out) gb241 (Nat.le_of_eq hg.symm)) hb); have n1_ := Aside0.mk (Kd.R_below (by (with_reducible repeat (first | apply Kd.R_alloc | apply Kd.R_drewN | apply Kd.R_drew)); exact HO240.out) hb); have n2_ := Aside0.mk (below_step (by repeat (first | (with_reducible first | exact HB.out | apply below_alloc | apply pw_below_drewN | apply below_drew1) | exact HB.out)) hb); have n3_ := Aside0.mk (hbox); have n4_ := Aside0.mk ((by rw [hg]; exact (below_size (by repeat (first | (with_reducible first | exact HB.out | apply below_alloc | apply pw_below_drewN | apply below_drew1) | exact HB.out))) : w.heap.size ≤ gb241)); have n5_ := Aside0.mk ((by rw [hg]; exact (below_size (by repeat (first | (with_reducible first | exact HB.out | apply below_alloc | apply pw_below_drewN | apply below_drew1) | exact HB.out))) : w.heap.size ≤ gb241)); clear HO237; clear HO240; clear HB; have HO237 := n0_; have HO240 := n1_; have HB := n2_; have BK241 := n3_; have GW241 := n4_; have GE241 := n5_; clear n0_ n1_ n2_ n3_ n4_ n5_; clear hb hbox hg; have hcz29_0 : w28.cell? ⟨gb241, 0, none⟩ = some (.int .i64 0) := (blk_cell BK241.out 0).trans rfl; have hcz29_1 : w28.cell? ⟨gb241, 1, none⟩ = some (.slice none 0 0) := (blk_cell BK241.out 1).trans rfl; have hfz29_0 := blk_frozen BK241.out 0; have hfz29_1 := blk_frozen BK241.out 1))
        (try simp only [Act.put, List.setIfInBounds_toArray, List.set_cons_zero, List.set_cons_succ])
        go_cut [10] (fun v10 wc => ∃ (kq : Nat) (x10_12 : Int) (x242001_12 : List Int) (u242001 : Value), v10 = .int .i64 x10_12 ∧ Aside0 (interlocutorlaw8_ActHalves.j1 kq a0 (wrap64 (t224 - 1)) x10_12 x11_8 y235 4 x242001_12 = some r) ∧ Aside0 (kq ≤ kj8) ∧ Aside0 (Kd.N k27 27 wc w.heap.size (fun k_ => some k_ ≠ (u242001 : Value).ownBlock ∧ k_ ≠ gb241) v236 y235) ∧ Aside0 (Kd.R (Kd.int .i64) 3 wc w.heap.size (fun _ => True) u242001 x242001_12) ∧ Aside0 (wc.heap[gb241]? = some (.cells #[.int .i64 4, u242001] 30 (0, 0))) ∧ Aside0 (Below w.heap.size w wc))
        case first =>
          have H := HC13.out
          clear HC13
          by_cases c30 : a3 = true
          · subst c30
            have H1 : (interlocutorlaw8_ActHalves.j1 kj8 a0 (wrap64 (t224 - 1)) t225 x11_8 y235 4 (([0, 1, 2] : List Int))) = some r := by rw [if_pos rfl] at H; exact H
            clear H
            have H := H1
            clear H1
            obtain ⟨y242, hy242⟩ : ∃ y_ : List Int, y_ = (([0, 1, 2] : List Int)) := ⟨_, rfl⟩
            replace H : (interlocutorlaw8_ActHalves.j1 kj8 a0 (wrap64 (t224 - 1)) t225 x11_8 y235 4 y242) = some r := by first | (rw [hy242]; with_reducible exact H) | (have H2_ := (Option.bind_some _ _).symm.trans H; rw [hy242]; with_reducible exact H2_) | (have H2_ := (Option.bind_some _ _).symm.trans H; with_reducible exact H2_) | with_reducible exact H | (rw [hy242]; exact H) | exact H
            have Ny242 := Aside0.mk hy242
            clear hy242
            have H' := Aside0.mk H
            clear H
            go_wp2_with (first | ((with_reducible refine gate_dst (N := 38) rfl ?_); (try (refine gate_guard (by rfl) ?_; dsimp only)); refine Kd.R_lit (Kd.int .i64) _ 3 ?hg (N := 38) ?hd (xs := ([0, 1, 2] : List Int)) (inner := [.int .i64 0, .int .i64 1, .int .i64 2]) (ok := fun _ => True) (okp := fun _ => True) ?hr ?hp (fun _ hk => hk) trivial (Below.refl _ _) (Nat.le_refl _) (by simp) ?_; (case hd => rfl); (case hg => rfl); (case hr => first | (go_simp; done) | (go_simp; rfl)); (case hp => exact (Reps.one (show Kd.M (Kd.int .i64) _ _ _ 0 [.int .i64 0] from rfl) (Reps.one (show Kd.M (Kd.int .i64) _ _ _ 1 [.int .i64 1] from rfl) (Reps.one (show Kd.M (Kd.int .i64) _ _ _ 2 [.int .i64 2] from rfl) (Reps.none _ _))))); intro v243 w31 ho32 hb hg_ hnew_; clear hg_ hnew_; (first | rw [← Ny242.out] at ho32 | (simp only [Int.reduceToNat] at ho32; rw [← Ny242.out] at ho32)); have n0_ := Aside0.mk (Kd.N_elder' (by (with_reducible repeat (first | apply Kd.N_alloc | apply Kd.N_drewN | apply Kd.N_drew)); exact (Kd.N_mono (Kd.N_far (p := ⟨gb241, 1, none⟩) (Kd.N_far (p := ⟨gb241, 0, none⟩) (Kd.N_mono HO237.out (fun k_ hk => (⟨hk, hk.2⟩ : _ ∧ k_ ≠ gb241))) (fun _ hk => hk.2) (.int .i64 4)) (fun _ hk => hk.2) (.slice Ao27 y238.length co27)) (fun _ h_ => h_.1))) (Kd.R_base ho32) hb); have n1_ := Aside0.mk (Kd.R_elder' (by (with_reducible repeat (first | apply Kd.R_alloc | apply Kd.R_drewN | apply Kd.R_drew)); exact (Kd.R_mono (Kd.R_far (p := ⟨gb241, 1, none⟩) (Kd.R_far (p := ⟨gb241, 0, none⟩) (Kd.R_types HO240.out BK241.out (by decide)) (fun _ hk => hk.2) (.int .i64 4)) (fun _ hk => hk.2) (.slice Ao27 y238.length co27)) (fun _ h_ => h_.1))) (Kd.R_base ho32) hb); have n2_ := Aside0.mk (Kd.R_lower (Kd.R_new' ho32 (Kd.R_lt (by (with_reducible repeat (first | apply Kd.R_alloc | apply Kd.R_drewN | apply Kd.R_drew)); exact (Kd.R_mono (Kd.R_far (p := ⟨gb241, 1, none⟩) (Kd.R_far (p := ⟨gb241, 0, none⟩) (Kd.R_types HO240.out BK241.out (by decide)) (fun _ hk => hk.2) (.int .i64 4)) (fun _ hk => hk.2) (.slice Ao27 y238.length co27)) (fun _ h_ => h_.1))))) (below_size (by repeat (first | (with_reducible first | exact HB.out | apply below_alloc | apply pw_below_drewN | apply below_drew1 | refine below_set ?_ GE241.out) | exact HB.out)))); have n3_ := Aside0.mk (blk_below (g := gb241) (o := .cells #[.int .i64 4, .slice Ao27 y238.length co27] 30 (0, 0)) (by (with_reducible repeat (first | refine blk_drewN ?_ _ | refine blk_drew ?_ | refine blk_alloc ?_ _)); refine blk_put (cs := #[.int .i64 4, .slice none 0 0]) ?_ 1 _ rfl; (with_reducible repeat (first | refine blk_drewN ?_ _ | refine blk_drew ?_ | refine blk_alloc ?_ _)); refine blk_put (cs := #[.int .i64 0, .slice none 0 0]) ?_ 0 _ rfl; (with_reducible repeat (first | refine blk_drewN ?_ _ | refine blk_drew ?_ | refine blk_alloc ?_ _)); exact BK241.out) hb); have n4_ := Aside0.mk (below_step (by repeat (first | (with_reducible first | exact HB.out | apply below_alloc | apply pw_below_drewN | apply below_drew1 | refine below_set ?_ GE241.out) | exact HB.out)) hb); clear HO237; clear HO240; clear BK241; clear HB; have HO237 := n0_; have HO240 := n1_; have HO244 := n2_; have BK241 := n3_; have HB := n4_; clear n0_ n1_ n2_ n3_ n4_; clear hb ho32; obtain ⟨Ao33, co33, eo33⟩ := Kd.R_slice HO244.out; subst eo33; have hcz34_0 : w31.cell? ⟨gb241, 0, none⟩ = some (.int .i64 4) := (blk_cell BK241.out 0).trans rfl; have hcz34_1 : w31.cell? ⟨gb241, 1, none⟩ = some (.slice Ao27 y238.length co27) := (blk_cell BK241.out 1).trans rfl; have hfz34_0 := blk_frozen BK241.out 0; have hfz34_1 := blk_frozen BK241.out 1))
            go_meet
            case rel => exact ⟨_, (t225), (y242), (.slice Ao33 y242.length co33), (by first | rfl | (simp; done) | (simp [*]; done)), H', ⟨by have := HJ8.out; first | omega | exact Nat.le_refl _⟩, ⟨by (with_reducible repeat (first | apply Kd.N_alloc | apply Kd.N_drewN | apply Kd.N_drew)); exact Kd.N_mono (Kd.N_far (p := ⟨gb241, 1, none⟩) (Kd.N_mono HO237.out (fun k_ hk => (⟨hk, hk.1.2⟩ : _ ∧ k_ ≠ gb241))) (fun _ hk => hk.2) (.slice Ao33 y242.length co33)) (fun _ hk => ⟨hk.1.2, hk.1.1.2⟩)⟩, ⟨by (with_reducible repeat (first | apply Kd.R_alloc | apply Kd.R_drewN | apply Kd.R_drew)); exact Kd.R_mono (Kd.R_far (p := ⟨gb241, 1, none⟩) (Kd.R_types HO244.out BK241.out (by decide)) (fun _ hk => hk.2) (.slice Ao33 y242.length co33)) (fun _ hk => trivial)⟩, ⟨by (with_reducible repeat (first | refine blk_drewN ?_ _ | refine blk_drew ?_ | refine blk_alloc ?_ _)); refine blk_put (cs := #[.int .i64 4, .slice Ao27 y238.length co27]) ?_ 1 _ rfl; (with_reducible repeat (first | refine blk_drewN ?_ _ | refine blk_drew ?_ | refine blk_alloc ?_ _)); exact BK241.out⟩, ⟨by repeat (first | (with_reducible first | exact HB.out | apply below_alloc | apply pw_below_drewN | apply below_drew1 | refine below_set ?_ GE241.out) | exact HB.out)⟩⟩
          · replace c30 := Bool.eq_false_iff.mpr c30
            subst c30
            have H1 : (interlocutorlaw8_ActHalves.j1 kj8 a0 (wrap64 (t224 - 1)) 0 x11_8 y235 4 y238) = some r := by rw [if_neg (show ¬ (false = true) by decide)] at H; exact H
            clear H
            have H := H1
            clear H1
            have H' := Aside0.mk H
            clear H
            go_wp2
            go_meet
            case rel => exact ⟨_, (0), (y238), (.slice Ao27 y238.length co27), (by first | rfl | (simp; done) | (simp [*]; done)), H', ⟨by have := HJ8.out; first | omega | exact Nat.le_refl _⟩, ⟨by (with_reducible repeat (first | apply Kd.N_alloc | apply Kd.N_drewN | apply Kd.N_drew)); exact Kd.N_mono (Kd.N_far (p := ⟨gb241, 1, none⟩) (Kd.N_far (p := ⟨gb241, 0, none⟩) (Kd.N_mono HO237.out (fun k_ hk => (⟨hk, hk.2⟩ : _ ∧ k_ ≠ gb241))) (fun _ hk => hk.2) (.int .i64 4)) (fun _ hk => hk.2) (.slice Ao27 y238.length co27)) (fun _ hk => ⟨hk.1.1.2, hk.1.2⟩)⟩, ⟨by (with_reducible repeat (first | apply Kd.R_alloc | apply Kd.R_drewN | apply Kd.R_drew)); exact Kd.R_mono (Kd.R_far (p := ⟨gb241, 1, none⟩) (Kd.R_far (p := ⟨gb241, 0, none⟩) (Kd.R_types HO240.out BK241.out (by decide)) (fun _ hk => hk.2) (.int .i64 4)) (fun _ hk => hk.2) (.slice Ao27 y238.length co27)) (fun _ hk => trivial)⟩, ⟨by (with_reducible repeat (first | refine blk_drewN ?_ _ | refine blk_drew ?_ | refine blk_alloc ?_ _)); refine blk_put (cs := #[.int .i64 4, .slice none 0 0]) ?_ 1 _ rfl; (with_reducible repeat (first | refine blk_drewN ?_ _ | refine blk_drew ?_ | refine blk_alloc ?_ _)); refine blk_put (cs := #[.int .i64 0, .slice none 0 0]) ?_ 0 _ rfl; (with_reducible repeat (first | refine blk_drewN ?_ _ | refine blk_drew ?_ | refine blk_alloc ?_ _)); exact BK241.out⟩, ⟨by repeat (first | (with_reducible first | exact HB.out | apply below_alloc | apply pw_below_drewN | apply below_drew1 | refine below_set ?_ GE241.out) | exact HB.out)⟩⟩
        case rest =>
          clear HC13
          try clear c1
          try clear c2
          try clear p2
          try clear c3
          try clear c6
          try clear p6
          try clear c11
          try clear c17
          try clear c18
          try clear c30
          try clear hcz29_0
          try clear hcz29_1
          try clear hcz34_0
          try clear hcz34_1
          try clear hfz29_0
          try clear hfz29_1
          try clear hfz34_0
          try clear hfz34_1
          try clear p2
          try clear p6
          obtain ⟨kq, x10_12, x242001_12, u242001, rfl, HA, HJ12, HO_12, HO_242001, BK241, HB⟩ := hcut
          cases kq with
          | zero => exact absurd HA.out (by simp [interlocutorlaw8_ActHalves.j1])
          | succ kj12 =>
            have H := HA.out
            clear HA
            simp only [interlocutorlaw8_ActHalves.j1] at H
            replace H := Option.bind_eq_some_iff.mp H
            obtain ⟨⟨t245, t246, t247, t248, t249, t250⟩, A350, H⟩ := H
            replace H : ((act_Do.f kj12 4 x242001_12 y235 t245 t246 t247 t248 t249 t250).bind fun bt251 => (if (wrap64 (t224 - 1)) < 1 then (some (!bt251.2.2)) else (if (wrap64 (t224 - 1)) > 12 then (some (!bt251.2.2)) else (if x10_12 > 59 then (some (!bt251.2.2)) else (if bt251.2.2 = true then ((interlocutorref10_Cmp.f kj12 bt251.1 bt251.2.1 5 (([wrap64 ((Int.tmod (wrap64 (t224 - 1)) 12) + (wrap64 (12 * x11_8))), x10_12, 0] : List Int))).bind fun t260 => (some (t260 == 0))) else (some false)))))) = some r := H
            have A35 := Aside0.mk A350
            clear A350
            replace H := Option.bind_eq_some_iff.mp H
            obtain ⟨⟨t251, t252, t255⟩, A360, H⟩ := H
            replace H : (if (wrap64 (t224 - 1)) < 1 then (some (!t255)) else (if (wrap64 (t224 - 1)) > 12 then (some (!t255)) else (if x10_12 > 59 then (some (!t255)) else (if t255 = true then ((interlocutorref10_Cmp.f kj12 t251 t252 5 (([wrap64 ((Int.tmod (wrap64 (t224 - 1)) 12) + (wrap64 (12 * x11_8))), x10_12, 0] : List Int))).bind fun t260 => (some (t260 == 0))) else (some false))))) = some r := H
            have A36 := Aside0.mk A360
            clear A360
            by_cases c37 : (wrap64 (t224 - 1)) < 1
            · rw [if_pos c37] at H
              have c37b0 : decide ((wrap64 (t224 - 1)) < 1) = true := decide_eq_true c37
              clear c37
              obtain rfl := Option.some.inj H
              obtain ⟨Ao38, co38, eo38⟩ := Kd.R_slice HO_242001.out
              subst eo38
              obtain ⟨Ao39, co39, eo39⟩ := Kd.N_slice HO_12.out
              subst eo39
              try go_wp2
              have n0_ := Aside0.mk (Kd.N_drew HO_12.out)
              have n1_ := Aside0.mk (Kd.R_drew HO_242001.out)
              have n2_ := Aside0.mk (blk_drew BK241.out)
              have n3_ := Aside0.mk (below_drew1 HB.out)
              clear HO_12
              clear HO_242001
              clear BK241
              clear HB
              have HO_12 := n0_
              have HO_242001 := n1_
              have BK241 := n2_
              have HB := n3_
              clear n0_ n1_ n2_ n3_
              refine start_ (n := 11) (S := fun w' => w'.cell? ⟨gb241, 0, none⟩ = some (.int .i64 4) ∧ w'.cell? ⟨gb241, 1, none⟩ = some (.slice Ao38 x242001_12.length co38)) (ds := []) #[false, false, false, false, false, false, false, false, false, false, false] (by kernel_rfl) rfl rfl ⟨(blk_cell BK241.out 0).trans rfl, (blk_cell BK241.out 1).trans rfl⟩ (fun hHeld => ?_); refine with_tabW interlocutorlaw8_ActHalves.tab12 interlocutorlaw8_ActHalves.bits12 (fun HT_ HW_ => ?_)
              generalize wc.drew = w40 at HO_12 HO_242001 BK241 HB hHeld ⊢
              refine pure_ (i := 1) (N := some 42) (v := ?_) (a' := ?_) #[false, true, false, false, false, false, false, false, false, false, false] rfl rfl (any_of HT_.out (by kernel_rfl)) (fun _ _ _ h => h) (Or.inl ⟨by rfl, ?_⟩) ?_ ?_
              rotate_left
              · intro w'
                go_simp
                with_reducible rfl
              rotate_left
              · simp only [Act.put, List.setIfInBounds_toArray, List.set_cons_zero, List.set_cons_succ, i64_w, i32_w]
                rfl
              refine pure_ (i := 2) (N := some 43) (v := ?_) (a' := ?_) #[false, true, true, false, false, false, false, false, false, false, false] rfl rfl (any_of HT_.out (by kernel_rfl)) (fun _ _ _ h => h) (Or.inl ⟨by rfl, ?_⟩) ?_ ?_
              rotate_left
              · intro w'
                go_simp
                with_reducible rfl
              rotate_left
              · simp only [Act.put, List.setIfInBounds_toArray, List.set_cons_zero, List.set_cons_succ, i64_w, i32_w]
                rfl
              refine take_ (i := 0) (N := some 41) (v := ?_) (a' := ?_) #[true, true, true, false, false, false, false, false, false, false, false] rfl rfl (take_ofW HT_.out HW_.out (by kernel_rfl)) (fun _ _ _ h => h) (Or.inl ⟨by rfl, ?_⟩) hHeld ?_ ?_
              rotate_left
              · rintro w' ⟨s0, s1⟩
                go_simp
                with_reducible rfl
              rotate_left
              · simp only [Act.put, List.setIfInBounds_toArray, List.set_cons_zero, List.set_cons_succ, i64_w, i32_w]
                rfl
              refine join_ (σ := Value × Nat) 2 #[true, true, true, true, true, true, true, true, true, false, false] (fun s_ => [(44, .agg #[.int .i64 t245, .int .i64 t246, .int .i64 t247, .int .i64 t248, .int .i64 t249, .int .i64 t250]), (45, .tuple #[.agg #[.int .i64 t251, s_.1], .bool t255]), (14, .pointer (some ⟨s_.2, 0, none⟩)), (40, .tuple #[.agg #[.int .i64 t251, s_.1], .bool t255]), (46, .agg #[.int .i64 t251, s_.1]), (47, .bool t255)]) (fun s_ w' => (w'.cell? ⟨gb241, 0, none⟩ = some (.int .i64 4) ∧ w'.cell? ⟨gb241, 1, none⟩ = some (.slice Ao38 x242001_12.length co38)) ∧ (Kd.R (Kd.int .i64) 3 w' w.heap.size (fun k_ => some k_ ≠ (.slice Ao38 x242001_12.length co38 : Value).ownBlock) s_.1 t252) ∧ (Kd.N k27 27 w' w.heap.size (fun k_ => some k_ ≠ (s_.1 : Value).ownBlock ∧ some k_ ≠ (.slice Ao38 x242001_12.length co38 : Value).ownBlock ∧ k_ ≠ gb241 ∧ k_ ≠ s_.2) (.slice Ao39 y235.length co39) y235) ∧ (Kd.R (Kd.int .i64) 3 w' w.heap.size (fun k_ => some k_ ≠ (s_.1 : Value).ownBlock) (.slice Ao38 x242001_12.length co38) x242001_12) ∧ (w'.heap[gb241]? = some (.cells #[.int .i64 4, .slice Ao38 x242001_12.length co38] 30 (0, 0))) ∧ (w'.heap[s_.2]? = some (.cells #[.int .i64 0, .slice none 0 0] 27 (0, 0))) ∧ (w.heap.size ≤ s_.2) ∧ (w.heap.size ≤ s_.2) ∧ (gb241 ≠ s_.2) ∧ (s_.2 ≠ gb241) ∧ (Below w.heap.size w w')) ?_ ?_
              rotate_left
              · intro hCont
                refine two_ (i := 3) (j := 8) (Ni := some 44) (Nj := some 14) #[true, true, true, true, false, false, false, false, false, false, false] #[true, true, true, false, false, false, false, false, true, false, false] rfl rfl rfl rfl (two_of HT_.out (by kernel_rfl)) (by decide) (by decide) (fun K hK => ?_) (fun K hK => ?_)
                · skip
                  refine goes_ Try.func21 (by kernel_rfl) rfl #[.int .i64 a0] (by rfl) rfl rfl (by (try simp only [List.map_toArray, List.map_cons, List.map_nil]); first | done | rfl | (simp only [List.length_drop, List.length_take]; rfl)) ?_
                  with_reducible refine (interlocutorlaw8_Ref.calls a0 t245 t246 t247 t248 t249 t250 _ A35.out).mono ?_
                  rintro e w41 ⟨rfl, hb⟩
                  refine ⟨_, rfl, ?_⟩
                  have n0_ := Aside0.mk (Kd.N_below (by (with_reducible repeat (first | apply Kd.N_alloc | apply Kd.N_drewN | apply Kd.N_drew)); exact HO_12.out) hb)
                  have n1_ := Aside0.mk (Kd.R_below (by (with_reducible repeat (first | apply Kd.R_alloc | apply Kd.R_drewN | apply Kd.R_drew)); exact HO_242001.out) hb)
                  have n2_ := Aside0.mk (blk_below (g := gb241) (o := .cells #[.int .i64 4, .slice Ao38 x242001_12.length co38] 30 (0, 0)) (by (with_reducible repeat (first | refine blk_drewN ?_ _ | refine blk_drew ?_ | refine blk_alloc ?_ _)); exact BK241.out) hb)
                  have n3_ := Aside0.mk (below_step (by repeat (first | (with_reducible first | exact HB.out | apply below_alloc | apply pw_below_drewN | apply below_drew1 | refine below_set ?_ GE241.out) | exact HB.out)) hb)
                  clear HO_12
                  clear HO_242001
                  clear BK241
                  clear HB
                  have HO_12 := n0_
                  have HO_242001 := n1_
                  have BK241 := n2_
                  have HB := n3_
                  clear n0_ n1_ n2_ n3_
                  (try clear hb)
                  (try clear hb2)
                  (try clear hk)
                  (try clear hi)
                  refine hK.out _ _ ⟨(blk_cell BK241.out 0).trans rfl, (blk_cell BK241.out 1).trans rfl⟩ (fun hHeld => ?_)
                  clear hK K
                  refine norm_ (a' := ?_) ?_ ?_
                  rotate_left
                  · show Act.put _ (some 44) _ = _
                    simp only [Act.put, List.setIfInBounds_toArray, List.set_cons_zero, List.set_cons_succ, i64_w, i32_w]
                    rfl
                  refine two_ (i := 4) (j := 8) (Ni := some 45) (Nj := some 14) #[true, true, true, true, true, false, false, false, false, false, false] #[true, true, true, true, false, false, false, false, true, false, false] rfl rfl rfl rfl (two_of HT_.out (by kernel_rfl)) (by decide) (by decide) (fun K hK => ?_) (fun K hK => ?_)
                  · skip
                    refine goes_ Try.func22 (by kernel_rfl) rfl #[.agg #[.int .i64 4, .slice Ao38 x242001_12.length co38], .slice Ao39 y235.length co39, .agg #[.int .i64 t245, .int .i64 t246, .int .i64 t247, .int .i64 t248, .int .i64 t249, .int .i64 t250]] (by rfl) rfl rfl (by (try simp only [List.map_toArray, List.map_cons, List.map_nil]); first | done | rfl | (simp only [List.length_drop, List.length_take]; rfl)) ?_
                    with_reducible refine (act_Do.calls kj12 4 _ _ x242001_12 _ _ y235 t245 t246 t247 t248 t249 t250 t251 t252 t255 _ ?side1 ?side2 ?side3 ?side4 A36.out).mono ?_
                    (case side1 => repeat (first | exact (Kd.R_reads' HO_242001.out).2.2 | (with_reducible refine Kd.C_alloc ?_ _) | (with_reducible refine Kd.C_drewN ?_ _) | (with_reducible refine Kd.C_drew ?_)))
                    (case side2 => exact (Kd.R_reads' HO_242001.out).2.1)
                    (case side3 => repeat (first | exact (Kd.N_reads' HO_12.out).2.2 | (with_reducible refine Kd.C_alloc ?_ _) | (with_reducible refine Kd.C_drewN ?_ _) | (with_reducible refine Kd.C_drew ?_)))
                    (case side4 => exact (Kd.N_reads' HO_12.out).2.1)
                    rintro e w42 ⟨v253, rfl, ho0, hb⟩
                    refine ⟨_, rfl, ?_⟩
                    have n0_ := Aside0.mk (Kd.N_elder' (by (with_reducible repeat (first | apply Kd.N_alloc | apply Kd.N_drewN | apply Kd.N_drew)); exact HO_12.out) (Kd.R_base ho0) hb)
                    have n1_ := Aside0.mk (Kd.R_elder' (by (with_reducible repeat (first | apply Kd.R_alloc | apply Kd.R_drewN | apply Kd.R_drew)); exact HO_242001.out) (Kd.R_base ho0) hb)
                    have n2_ := Aside0.mk (Kd.R_lower (Kd.R_new' ho0 (Kd.R_lt (by (with_reducible repeat (first | apply Kd.R_alloc | apply Kd.R_drewN | apply Kd.R_drew)); exact HO_242001.out))) (below_size (by repeat (first | (with_reducible first | exact HB.out | apply below_alloc | apply pw_below_drewN | apply below_drew1 | refine below_set ?_ GE241.out) | exact HB.out))))
                    have n3_ := Aside0.mk (blk_below (g := gb241) (o := .cells #[.int .i64 4, .slice Ao38 x242001_12.length co38] 30 (0, 0)) (by (with_reducible repeat (first | refine blk_drewN ?_ _ | refine blk_drew ?_ | refine blk_alloc ?_ _)); exact BK241.out) hb)
                    have n4_ := Aside0.mk (below_step (by repeat (first | (with_reducible first | exact HB.out | apply below_alloc | apply pw_below_drewN | apply below_drew1 | refine below_set ?_ GE241.out) | exact HB.out)) hb)
                    clear HO_12
                    clear HO_242001
                    clear BK241
                    clear HB
                    have HO_12 := n0_
                    have HO_242001 := n1_
                    have HO254 := n2_
                    have BK241 := n3_
                    have HB := n4_
                    clear n0_ n1_ n2_ n3_ n4_
                    (try clear hb)
                    (try clear hb2)
                    (try clear hk)
                    (try clear hi)
                    (try clear ho0)
                    refine hK.out _ _ ⟨(blk_cell BK241.out 0).trans rfl, (blk_cell BK241.out 1).trans rfl⟩ (fun hHeld => ?_)
                    clear hK K
                    refine norm_ (a' := ?_) ?_ ?_
                    rotate_left
                    · show Act.put _ (some 45) _ = _
                      simp only [Act.put, List.setIfInBounds_toArray, List.set_cons_zero, List.set_cons_succ, i64_w, i32_w]
                      rfl
                    refine pure_ (i := 5) (N := some 40) (v := ?_) (a' := ?_) #[true, true, true, true, true, true, false, false, false, false, false] rfl rfl (any_of HT_.out (by kernel_rfl)) (fun _ _ _ h => h) (Or.inl ⟨by rfl, ?_⟩) ?_ ?_
                    rotate_left
                    · intro w'
                      go_simp
                      with_reducible rfl
                    rotate_left
                    · simp only [Act.put, List.setIfInBounds_toArray, List.set_cons_zero, List.set_cons_succ, i64_w, i32_w]
                      rfl
                    refine pure_ (i := 6) (N := some 46) (v := ?_) (a' := ?_) #[true, true, true, true, true, true, true, false, false, false, false] rfl rfl (any_of HT_.out (by kernel_rfl)) (fun _ _ _ h => h) (Or.inl ⟨by rfl, ?_⟩) ?_ ?_
                    rotate_left
                    · intro w'
                      go_simp
                      with_reducible rfl
                    rotate_left
                    · simp only [Act.put, List.setIfInBounds_toArray, List.set_cons_zero, List.set_cons_succ, i64_w, i32_w]
                      rfl
                    refine pure_ (i := 7) (N := some 47) (v := ?_) (a' := ?_) #[true, true, true, true, true, true, true, true, false, false, false] rfl rfl (any_of HT_.out (by kernel_rfl)) (fun _ _ _ h => h) (Or.inl ⟨by rfl, ?_⟩) ?_ ?_
                    rotate_left
                    · intro w'
                      go_simp
                      with_reducible rfl
                    rotate_left
                    · simp only [Act.put, List.setIfInBounds_toArray, List.set_cons_zero, List.set_cons_succ, i64_w, i32_w]
                      rfl
                    refine one_ (i := 8) (N := some 14) #[true, true, true, true, true, true, true, true, true, false, false] rfl rfl (one_of HT_.out (by kernel_rfl)) (by decide) (fun K hK => ?_)
                    refine box_step ?hg (N := 14) ?hd (cs := #[.int .i64 0, .slice none 0 0]) (t := 27) ?hr ?_; (case hd => rfl); (case hg => rfl); (case hr => first | (go_simp; done) | (go_simp; rfl))
                    intro gb256 hg w43 hbox hb
                    have n0_ := Aside0.mk (Kd.N_below (Kd.N_elderB (by (with_reducible repeat (first | apply Kd.N_alloc | apply Kd.N_drewN | apply Kd.N_drew)); exact HO_12.out) gb256 (Nat.le_of_eq hg.symm)) hb)
                    have n1_ := Aside0.mk (Kd.R_below (by (with_reducible repeat (first | apply Kd.R_alloc | apply Kd.R_drewN | apply Kd.R_drew)); exact HO_242001.out) hb)
                    have n2_ := Aside0.mk (Kd.R_below (by (with_reducible repeat (first | apply Kd.R_alloc | apply Kd.R_drewN | apply Kd.R_drew)); exact HO254.out) hb)
                    have n3_ := Aside0.mk (blk_below (g := gb241) (o := .cells #[.int .i64 4, .slice Ao38 x242001_12.length co38] 30 (0, 0)) (by (with_reducible repeat (first | refine blk_drewN ?_ _ | refine blk_drew ?_ | refine blk_alloc ?_ _)); exact BK241.out) hb)
                    have n4_ := Aside0.mk (below_step (by repeat (first | (with_reducible first | exact HB.out | apply below_alloc | apply pw_below_drewN | apply below_drew1 | refine below_set ?_ GE241.out) | exact HB.out)) hb)
                    have n5_ := Aside0.mk (hbox)
                    have n6_ := Aside0.mk ((by rw [hg]; exact (below_size (by repeat (first | (with_reducible first | exact HB.out | apply below_alloc | apply pw_below_drewN | apply below_drew1 | refine below_set ?_ GE241.out) | exact HB.out))) : w.heap.size ≤ gb256))
                    have n7_ := Aside0.mk ((by rw [hg]; exact (below_size (by repeat (first | (with_reducible first | exact HB.out | apply below_alloc | apply pw_below_drewN | apply below_drew1 | refine below_set ?_ GE241.out) | exact HB.out))) : w.heap.size ≤ gb256))
                    have n8_ := Aside0.mk ((by rw [hg]; exact Nat.ne_of_lt (blk_lt (g := gb241) (o := .cells #[.int .i64 4, .slice Ao38 x242001_12.length co38] 30 (0, 0)) (by (with_reducible repeat (first | refine blk_drewN ?_ _ | refine blk_drew ?_ | refine blk_alloc ?_ _)); exact BK241.out)) : gb241 ≠ gb256))
                    have n9_ := Aside0.mk ((by rw [hg]; exact Nat.ne_of_gt (blk_lt (g := gb241) (o := .cells #[.int .i64 4, .slice Ao38 x242001_12.length co38] 30 (0, 0)) (by (with_reducible repeat (first | refine blk_drewN ?_ _ | refine blk_drew ?_ | refine blk_alloc ?_ _)); exact BK241.out)) : gb256 ≠ gb241))
                    clear HO_12
                    clear HO_242001
                    clear HO254
                    clear BK241
                    clear HB
                    have HO_12 := n0_
                    have HO_242001 := n1_
                    have HO254 := n2_
                    have BK241 := n3_
                    have HB := n4_
                    have BK256 := n5_
                    have GW256 := n6_
                    have GE256 := n7_
                    have NB241_256 := n8_
                    have NB256_241 := n9_
                    clear n0_ n1_ n2_ n3_ n4_ n5_ n6_ n7_ n8_ n9_
                    clear hb hbox hg
                    refine hK.out _ _ ⟨(blk_cell BK241.out 0).trans rfl, (blk_cell BK241.out 1).trans rfl⟩ (fun hHeld => ?_)
                    clear hK K
                    refine norm_ (a' := ?_) ?_ ?_
                    rotate_left
                    · show Act.put _ (some 14) _ = _
                      simp only [Act.put, List.setIfInBounds_toArray, List.set_cons_zero, List.set_cons_succ, i64_w, i32_w]
                      rfl
                    exact norm_ (by simp only [putAll, Act.put, List.setIfInBounds_toArray, List.set_cons_zero, List.set_cons_succ]) (hCont (v253, gb256) _ ⟨hHeld, (by (with_reducible repeat (first | apply Kd.R_alloc | apply Kd.R_drewN | apply Kd.R_drew)); exact Kd.R_mono HO254.out (fun _ hk => hk.2)), (by (with_reducible repeat (first | apply Kd.N_alloc | apply Kd.N_drewN | apply Kd.N_drew)); exact Kd.N_mono HO_12.out (fun _ hk => ⟨hk.1.2, ⟨hk.1.1.1, ⟨hk.1.1.2, hk.2⟩⟩⟩)), (by (with_reducible repeat (first | apply Kd.R_alloc | apply Kd.R_drewN | apply Kd.R_drew)); exact Kd.R_mono HO_242001.out (fun _ hk => hk.2)), (by (with_reducible repeat (first | refine blk_drewN ?_ _ | refine blk_drew ?_ | refine blk_alloc ?_ _)); exact BK241.out), (by (with_reducible repeat (first | refine blk_drewN ?_ _ | refine blk_drew ?_ | refine blk_alloc ?_ _)); exact BK256.out), GW256.out, GE256.out, NB241_256.out, NB256_241.out, (by repeat (first | (with_reducible first | exact HB.out | apply below_alloc | apply pw_below_drewN | apply below_drew1 | refine below_set ?_ GE241.out | refine below_set ?_ GE256.out) | exact HB.out))⟩)
                  · skip
                    refine box_step ?hg (N := 14) ?hd (cs := #[.int .i64 0, .slice none 0 0]) (t := 27) ?hr ?_; (case hd => rfl); (case hg => rfl); (case hr => first | (go_simp; done) | (go_simp; rfl))
                    intro gb256 hg w42 hbox hb
                    have n0_ := Aside0.mk (Kd.N_below (Kd.N_elderB (by (with_reducible repeat (first | apply Kd.N_alloc | apply Kd.N_drewN | apply Kd.N_drew)); exact HO_12.out) gb256 (Nat.le_of_eq hg.symm)) hb)
                    have n1_ := Aside0.mk (Kd.R_below (by (with_reducible repeat (first | apply Kd.R_alloc | apply Kd.R_drewN | apply Kd.R_drew)); exact HO_242001.out) hb)
                    have n2_ := Aside0.mk (blk_below (g := gb241) (o := .cells #[.int .i64 4, .slice Ao38 x242001_12.length co38] 30 (0, 0)) (by (with_reducible repeat (first | refine blk_drewN ?_ _ | refine blk_drew ?_ | refine blk_alloc ?_ _)); exact BK241.out) hb)
                    have n3_ := Aside0.mk (below_step (by repeat (first | (with_reducible first | exact HB.out | apply below_alloc | apply pw_below_drewN | apply below_drew1 | refine below_set ?_ GE241.out) | exact HB.out)) hb)
                    have n4_ := Aside0.mk (hbox)
                    have n5_ := Aside0.mk ((by rw [hg]; exact (below_size (by repeat (first | (with_reducible first | exact HB.out | apply below_alloc | apply pw_below_drewN | apply below_drew1 | refine below_set ?_ GE241.out) | exact HB.out))) : w.heap.size ≤ gb256))
                    have n6_ := Aside0.mk ((by rw [hg]; exact (below_size (by repeat (first | (with_reducible first | exact HB.out | apply below_alloc | apply pw_below_drewN | apply below_drew1 | refine below_set ?_ GE241.out) | exact HB.out))) : w.heap.size ≤ gb256))
                    have n7_ := Aside0.mk ((by rw [hg]; exact Nat.ne_of_lt (blk_lt (g := gb241) (o := .cells #[.int .i64 4, .slice Ao38 x242001_12.length co38] 30 (0, 0)) (by (with_reducible repeat (first | refine blk_drewN ?_ _ | refine blk_drew ?_ | refine blk_alloc ?_ _)); exact BK241.out)) : gb241 ≠ gb256))
                    have n8_ := Aside0.mk ((by rw [hg]; exact Nat.ne_of_gt (blk_lt (g := gb241) (o := .cells #[.int .i64 4, .slice Ao38 x242001_12.length co38] 30 (0, 0)) (by (with_reducible repeat (first | refine blk_drewN ?_ _ | refine blk_drew ?_ | refine blk_alloc ?_ _)); exact BK241.out)) : gb256 ≠ gb241))
                    clear HO_12
                    clear HO_242001
                    clear BK241
                    clear HB
                    have HO_12 := n0_
                    have HO_242001 := n1_
                    have BK241 := n2_
                    have HB := n3_
                    have BK256 := n4_
                    have GW256 := n5_
                    have GE256 := n6_
                    have NB241_256 := n7_
                    have NB256_241 := n8_
                    clear n0_ n1_ n2_ n3_ n4_ n5_ n6_ n7_ n8_
                    clear hb hbox hg
                    refine hK.out _ _ ⟨(blk_cell BK241.out 0).trans rfl, (blk_cell BK241.out 1).trans rfl⟩ (fun hHeld => ?_)
                    clear hK K
                    refine norm_ (a' := ?_) ?_ ?_
                    rotate_left
                    · show Act.put _ (some 14) _ = _
                      simp only [Act.put, List.setIfInBounds_toArray, List.set_cons_zero, List.set_cons_succ, i64_w, i32_w]
                      rfl
                    refine one_ (i := 4) (N := some 45) #[true, true, true, true, true, false, false, false, true, false, false] rfl rfl (one_of HT_.out (by kernel_rfl)) (by decide) (fun K hK => ?_)
                    refine goes_ Try.func22 (by kernel_rfl) rfl #[.agg #[.int .i64 4, .slice Ao38 x242001_12.length co38], .slice Ao39 y235.length co39, .agg #[.int .i64 t245, .int .i64 t246, .int .i64 t247, .int .i64 t248, .int .i64 t249, .int .i64 t250]] (by rfl) rfl rfl (by (try simp only [List.map_toArray, List.map_cons, List.map_nil]); first | done | rfl | (simp only [List.length_drop, List.length_take]; rfl)) ?_
                    with_reducible refine (act_Do.calls kj12 4 _ _ x242001_12 _ _ y235 t245 t246 t247 t248 t249 t250 t251 t252 t255 _ ?side1 ?side2 ?side3 ?side4 A36.out).mono ?_
                    (case side1 => repeat (first | exact (Kd.R_reads' HO_242001.out).2.2 | (with_reducible refine Kd.C_alloc ?_ _) | (with_reducible refine Kd.C_drewN ?_ _) | (with_reducible refine Kd.C_drew ?_)))
                    (case side2 => exact (Kd.R_reads' HO_242001.out).2.1)
                    (case side3 => repeat (first | exact (Kd.N_reads' HO_12.out).2.2 | (with_reducible refine Kd.C_alloc ?_ _) | (with_reducible refine Kd.C_drewN ?_ _) | (with_reducible refine Kd.C_drew ?_)))
                    (case side4 => exact (Kd.N_reads' HO_12.out).2.1)
                    rintro e w43 ⟨v253, rfl, ho0, hb⟩
                    refine ⟨_, rfl, ?_⟩
                    have n0_ := Aside0.mk (Kd.N_elder' (by (with_reducible repeat (first | apply Kd.N_alloc | apply Kd.N_drewN | apply Kd.N_drew)); exact HO_12.out) (Kd.R_base ho0) hb)
                    have n1_ := Aside0.mk (Kd.R_elder' (by (with_reducible repeat (first | apply Kd.R_alloc | apply Kd.R_drewN | apply Kd.R_drew)); exact HO_242001.out) (Kd.R_base ho0) hb)
                    have n2_ := Aside0.mk (Kd.R_lower (Kd.R_new' ho0 (Kd.R_lt (by (with_reducible repeat (first | apply Kd.R_alloc | apply Kd.R_drewN | apply Kd.R_drew)); exact HO_242001.out))) (below_size (by repeat (first | (with_reducible first | exact HB.out | apply below_alloc | apply pw_below_drewN | apply below_drew1 | refine below_set ?_ GE241.out | refine below_set ?_ GE256.out) | exact HB.out))))
                    have n3_ := Aside0.mk (blk_below (g := gb241) (o := .cells #[.int .i64 4, .slice Ao38 x242001_12.length co38] 30 (0, 0)) (by (with_reducible repeat (first | refine blk_drewN ?_ _ | refine blk_drew ?_ | refine blk_alloc ?_ _)); exact BK241.out) hb)
                    have n4_ := Aside0.mk (blk_below (g := gb256) (o := .cells #[.int .i64 0, .slice none 0 0] 27 (0, 0)) (by (with_reducible repeat (first | refine blk_drewN ?_ _ | refine blk_drew ?_ | refine blk_alloc ?_ _)); exact BK256.out) hb)
                    have n5_ := Aside0.mk (below_step (by repeat (first | (with_reducible first | exact HB.out | apply below_alloc | apply pw_below_drewN | apply below_drew1 | refine below_set ?_ GE241.out | refine below_set ?_ GE256.out) | exact HB.out)) hb)
                    clear HO_12
                    clear HO_242001
                    clear BK241
                    clear BK256
                    clear HB
                    have HO_12 := n0_
                    have HO_242001 := n1_
                    have HO254 := n2_
                    have BK241 := n3_
                    have BK256 := n4_
                    have HB := n5_
                    clear n0_ n1_ n2_ n3_ n4_ n5_
                    (try clear hb)
                    (try clear hb2)
                    (try clear hk)
                    (try clear hi)
                    (try clear ho0)
                    refine hK.out _ _ ⟨(blk_cell BK241.out 0).trans rfl, (blk_cell BK241.out 1).trans rfl⟩ (fun hHeld => ?_)
                    clear hK K
                    refine norm_ (a' := ?_) ?_ ?_
                    rotate_left
                    · show Act.put _ (some 45) _ = _
                      simp only [Act.put, List.setIfInBounds_toArray, List.set_cons_zero, List.set_cons_succ, i64_w, i32_w]
                      rfl
                    refine pure_ (i := 5) (N := some 40) (v := ?_) (a' := ?_) #[true, true, true, true, true, true, false, false, true, false, false] rfl rfl (any_of HT_.out (by kernel_rfl)) (fun _ _ _ h => h) (Or.inl ⟨by rfl, ?_⟩) ?_ ?_
                    rotate_left
                    · intro w'
                      go_simp
                      with_reducible rfl
                    rotate_left
                    · simp only [Act.put, List.setIfInBounds_toArray, List.set_cons_zero, List.set_cons_succ, i64_w, i32_w]
                      rfl
                    refine pure_ (i := 6) (N := some 46) (v := ?_) (a' := ?_) #[true, true, true, true, true, true, true, false, true, false, false] rfl rfl (any_of HT_.out (by kernel_rfl)) (fun _ _ _ h => h) (Or.inl ⟨by rfl, ?_⟩) ?_ ?_
                    rotate_left
                    · intro w'
                      go_simp
                      with_reducible rfl
                    rotate_left
                    · simp only [Act.put, List.setIfInBounds_toArray, List.set_cons_zero, List.set_cons_succ, i64_w, i32_w]
                      rfl
                    refine pure_ (i := 7) (N := some 47) (v := ?_) (a' := ?_) #[true, true, true, true, true, true, true, true, true, false, false] rfl rfl (any_of HT_.out (by kernel_rfl)) (fun _ _ _ h => h) (Or.inl ⟨by rfl, ?_⟩) ?_ ?_
                    rotate_left
                    · intro w'
                      go_simp
                      with_reducible rfl
                    rotate_left
                    · simp only [Act.put, List.setIfInBounds_toArray, List.set_cons_zero, List.set_cons_succ, i64_w, i32_w]
                      rfl
                    exact norm_ (by simp only [putAll, Act.put, List.setIfInBounds_toArray, List.set_cons_zero, List.set_cons_succ]) (hCont (v253, gb256) _ ⟨hHeld, (by (with_reducible repeat (first | apply Kd.R_alloc | apply Kd.R_drewN | apply Kd.R_drew)); exact Kd.R_mono HO254.out (fun _ hk => hk.2)), (by (with_reducible repeat (first | apply Kd.N_alloc | apply Kd.N_drewN | apply Kd.N_drew)); exact Kd.N_mono HO_12.out (fun _ hk => ⟨hk.2, ⟨hk.1.1.1, ⟨hk.1.1.2, hk.1.2⟩⟩⟩)), (by (with_reducible repeat (first | apply Kd.R_alloc | apply Kd.R_drewN | apply Kd.R_drew)); exact Kd.R_mono HO_242001.out (fun _ hk => hk.2)), (by (with_reducible repeat (first | refine blk_drewN ?_ _ | refine blk_drew ?_ | refine blk_alloc ?_ _)); exact BK241.out), (by (with_reducible repeat (first | refine blk_drewN ?_ _ | refine blk_drew ?_ | refine blk_alloc ?_ _)); exact BK256.out), GW256.out, GE256.out, NB241_256.out, NB256_241.out, (by repeat (first | (with_reducible first | exact HB.out | apply below_alloc | apply pw_below_drewN | apply below_drew1 | refine below_set ?_ GE241.out | refine below_set ?_ GE256.out) | exact HB.out))⟩)
                · skip
                  refine box_step ?hg (N := 14) ?hd (cs := #[.int .i64 0, .slice none 0 0]) (t := 27) ?hr ?_; (case hd => rfl); (case hg => rfl); (case hr => first | (go_simp; done) | (go_simp; rfl))
                  intro gb256 hg w41 hbox hb
                  have n0_ := Aside0.mk (Kd.N_below (Kd.N_elderB (by (with_reducible repeat (first | apply Kd.N_alloc | apply Kd.N_drewN | apply Kd.N_drew)); exact HO_12.out) gb256 (Nat.le_of_eq hg.symm)) hb)
                  have n1_ := Aside0.mk (Kd.R_below (by (with_reducible repeat (first | apply Kd.R_alloc | apply Kd.R_drewN | apply Kd.R_drew)); exact HO_242001.out) hb)
                  have n2_ := Aside0.mk (blk_below (g := gb241) (o := .cells #[.int .i64 4, .slice Ao38 x242001_12.length co38] 30 (0, 0)) (by (with_reducible repeat (first | refine blk_drewN ?_ _ | refine blk_drew ?_ | refine blk_alloc ?_ _)); exact BK241.out) hb)
                  have n3_ := Aside0.mk (below_step (by repeat (first | (with_reducible first | exact HB.out | apply below_alloc | apply pw_below_drewN | apply below_drew1 | refine below_set ?_ GE241.out) | exact HB.out)) hb)
                  have n4_ := Aside0.mk (hbox)
                  have n5_ := Aside0.mk ((by rw [hg]; exact (below_size (by repeat (first | (with_reducible first | exact HB.out | apply below_alloc | apply pw_below_drewN | apply below_drew1 | refine below_set ?_ GE241.out) | exact HB.out))) : w.heap.size ≤ gb256))
                  have n6_ := Aside0.mk ((by rw [hg]; exact (below_size (by repeat (first | (with_reducible first | exact HB.out | apply below_alloc | apply pw_below_drewN | apply below_drew1 | refine below_set ?_ GE241.out) | exact HB.out))) : w.heap.size ≤ gb256))
                  have n7_ := Aside0.mk ((by rw [hg]; exact Nat.ne_of_lt (blk_lt (g := gb241) (o := .cells #[.int .i64 4, .slice Ao38 x242001_12.length co38] 30 (0, 0)) (by (with_reducible repeat (first | refine blk_drewN ?_ _ | refine blk_drew ?_ | refine blk_alloc ?_ _)); exact BK241.out)) : gb241 ≠ gb256))
                  have n8_ := Aside0.mk ((by rw [hg]; exact Nat.ne_of_gt (blk_lt (g := gb241) (o := .cells #[.int .i64 4, .slice Ao38 x242001_12.length co38] 30 (0, 0)) (by (with_reducible repeat (first | refine blk_drewN ?_ _ | refine blk_drew ?_ | refine blk_alloc ?_ _)); exact BK241.out)) : gb256 ≠ gb241))
                  clear HO_12
                  clear HO_242001
                  clear BK241
                  clear HB
                  have HO_12 := n0_
                  have HO_242001 := n1_
                  have BK241 := n2_
                  have HB := n3_
                  have BK256 := n4_
                  have GW256 := n5_
                  have GE256 := n6_
                  have NB241_256 := n7_
                  have NB256_241 := n8_
                  clear n0_ n1_ n2_ n3_ n4_ n5_ n6_ n7_ n8_
                  clear hb hbox hg
                  refine hK.out _ _ ⟨(blk_cell BK241.out 0).trans rfl, (blk_cell BK241.out 1).trans rfl⟩ (fun hHeld => ?_)
                  clear hK K
                  refine norm_ (a' := ?_) ?_ ?_
                  rotate_left
                  · show Act.put _ (some 14) _ = _
                    simp only [Act.put, List.setIfInBounds_toArray, List.set_cons_zero, List.set_cons_succ, i64_w, i32_w]
                    rfl
                  refine one_ (i := 3) (N := some 44) #[true, true, true, true, false, false, false, false, true, false, false] rfl rfl (one_of HT_.out (by kernel_rfl)) (by decide) (fun K hK => ?_)
                  refine goes_ Try.func21 (by kernel_rfl) rfl #[.int .i64 a0] (by rfl) rfl rfl (by (try simp only [List.map_toArray, List.map_cons, List.map_nil]); first | done | rfl | (simp only [List.length_drop, List.length_take]; rfl)) ?_
                  with_reducible refine (interlocutorlaw8_Ref.calls a0 t245 t246 t247 t248 t249 t250 _ A35.out).mono ?_
                  rintro e w42 ⟨rfl, hb⟩
                  refine ⟨_, rfl, ?_⟩
                  have n0_ := Aside0.mk (Kd.N_below (by (with_reducible repeat (first | apply Kd.N_alloc | apply Kd.N_drewN | apply Kd.N_drew)); exact HO_12.out) hb)
                  have n1_ := Aside0.mk (Kd.R_below (by (with_reducible repeat (first | apply Kd.R_alloc | apply Kd.R_drewN | apply Kd.R_drew)); exact HO_242001.out) hb)
                  have n2_ := Aside0.mk (blk_below (g := gb241) (o := .cells #[.int .i64 4, .slice Ao38 x242001_12.length co38] 30 (0, 0)) (by (with_reducible repeat (first | refine blk_drewN ?_ _ | refine blk_drew ?_ | refine blk_alloc ?_ _)); exact BK241.out) hb)
                  have n3_ := Aside0.mk (blk_below (g := gb256) (o := .cells #[.int .i64 0, .slice none 0 0] 27 (0, 0)) (by (with_reducible repeat (first | refine blk_drewN ?_ _ | refine blk_drew ?_ | refine blk_alloc ?_ _)); exact BK256.out) hb)
                  have n4_ := Aside0.mk (below_step (by repeat (first | (with_reducible first | exact HB.out | apply below_alloc | apply pw_below_drewN | apply below_drew1 | refine below_set ?_ GE241.out | refine below_set ?_ GE256.out) | exact HB.out)) hb)
                  clear HO_12
                  clear HO_242001
                  clear BK241
                  clear BK256
                  clear HB
                  have HO_12 := n0_
                  have HO_242001 := n1_
                  have BK241 := n2_
                  have BK256 := n3_
                  have HB := n4_
                  clear n0_ n1_ n2_ n3_ n4_
                  (try clear hb)
                  (try clear hb2)
                  (try clear hk)
                  (try clear hi)
                  refine hK.out _ _ ⟨(blk_cell BK241.out 0).trans rfl, (blk_cell BK241.out 1).trans rfl⟩ (fun hHeld => ?_)
                  clear hK K
                  refine norm_ (a' := ?_) ?_ ?_
                  rotate_left
                  · show Act.put _ (some 44) _ = _
                    simp only [Act.put, List.setIfInBounds_toArray, List.set_cons_zero, List.set_cons_succ, i64_w, i32_w]
                    rfl
                  refine one_ (i := 4) (N := some 45) #[true, true, true, true, true, false, false, false, true, false, false] rfl rfl (one_of HT_.out (by kernel_rfl)) (by decide) (fun K hK => ?_)
                  refine goes_ Try.func22 (by kernel_rfl) rfl #[.agg #[.int .i64 4, .slice Ao38 x242001_12.length co38], .slice Ao39 y235.length co39, .agg #[.int .i64 t245, .int .i64 t246, .int .i64 t247, .int .i64 t248, .int .i64 t249, .int .i64 t250]] (by rfl) rfl rfl (by (try simp only [List.map_toArray, List.map_cons, List.map_nil]); first | done | rfl | (simp only [List.length_drop, List.length_take]; rfl)) ?_
                  with_reducible refine (act_Do.calls kj12 4 _ _ x242001_12 _ _ y235 t245 t246 t247 t248 t249 t250 t251 t252 t255 _ ?side1 ?side2 ?side3 ?side4 A36.out).mono ?_
                  (case side1 => repeat (first | exact (Kd.R_reads' HO_242001.out).2.2 | (with_reducible refine Kd.C_alloc ?_ _) | (with_reducible refine Kd.C_drewN ?_ _) | (with_reducible refine Kd.C_drew ?_)))
                  (case side2 => exact (Kd.R_reads' HO_242001.out).2.1)
                  (case side3 => repeat (first | exact (Kd.N_reads' HO_12.out).2.2 | (with_reducible refine Kd.C_alloc ?_ _) | (with_reducible refine Kd.C_drewN ?_ _) | (with_reducible refine Kd.C_drew ?_)))
                  (case side4 => exact (Kd.N_reads' HO_12.out).2.1)
                  rintro e w43 ⟨v253, rfl, ho0, hb⟩
                  refine ⟨_, rfl, ?_⟩
                  have n0_ := Aside0.mk (Kd.N_elder' (by (with_reducible repeat (first | apply Kd.N_alloc | apply Kd.N_drewN | apply Kd.N_drew)); exact HO_12.out) (Kd.R_base ho0) hb)
                  have n1_ := Aside0.mk (Kd.R_elder' (by (with_reducible repeat (first | apply Kd.R_alloc | apply Kd.R_drewN | apply Kd.R_drew)); exact HO_242001.out) (Kd.R_base ho0) hb)
                  have n2_ := Aside0.mk (Kd.R_lower (Kd.R_new' ho0 (Kd.R_lt (by (with_reducible repeat (first | apply Kd.R_alloc | apply Kd.R_drewN | apply Kd.R_drew)); exact HO_242001.out))) (below_size (by repeat (first | (with_reducible first | exact HB.out | apply below_alloc | apply pw_below_drewN | apply below_drew1 | refine below_set ?_ GE241.out | refine below_set ?_ GE256.out) | exact HB.out))))
                  have n3_ := Aside0.mk (blk_below (g := gb241) (o := .cells #[.int .i64 4, .slice Ao38 x242001_12.length co38] 30 (0, 0)) (by (with_reducible repeat (first | refine blk_drewN ?_ _ | refine blk_drew ?_ | refine blk_alloc ?_ _)); exact BK241.out) hb)
                  have n4_ := Aside0.mk (blk_below (g := gb256) (o := .cells #[.int .i64 0, .slice none 0 0] 27 (0, 0)) (by (with_reducible repeat (first | refine blk_drewN ?_ _ | refine blk_drew ?_ | refine blk_alloc ?_ _)); exact BK256.out) hb)
                  have n5_ := Aside0.mk (below_step (by repeat (first | (with_reducible first | exact HB.out | apply below_alloc | apply pw_below_drewN | apply below_drew1 | refine below_set ?_ GE241.out | refine below_set ?_ GE256.out) | exact HB.out)) hb)
                  clear HO_12
                  clear HO_242001
                  clear BK241
                  clear BK256
                  clear HB
                  have HO_12 := n0_
                  have HO_242001 := n1_
                  have HO254 := n2_
                  have BK241 := n3_
                  have BK256 := n4_
                  have HB := n5_
                  clear n0_ n1_ n2_ n3_ n4_ n5_
                  (try clear hb)
                  (try clear hb2)
                  (try clear hk)
                  (try clear hi)
                  (try clear ho0)
                  refine hK.out _ _ ⟨(blk_cell BK241.out 0).trans rfl, (blk_cell BK241.out 1).trans rfl⟩ (fun hHeld => ?_)
                  clear hK K
                  refine norm_ (a' := ?_) ?_ ?_
                  rotate_left
                  · show Act.put _ (some 45) _ = _
                    simp only [Act.put, List.setIfInBounds_toArray, List.set_cons_zero, List.set_cons_succ, i64_w, i32_w]
                    rfl
                  refine pure_ (i := 5) (N := some 40) (v := ?_) (a' := ?_) #[true, true, true, true, true, true, false, false, true, false, false] rfl rfl (any_of HT_.out (by kernel_rfl)) (fun _ _ _ h => h) (Or.inl ⟨by rfl, ?_⟩) ?_ ?_
                  rotate_left
                  · intro w'
                    go_simp
                    with_reducible rfl
                  rotate_left
                  · simp only [Act.put, List.setIfInBounds_toArray, List.set_cons_zero, List.set_cons_succ, i64_w, i32_w]
                    rfl
                  refine pure_ (i := 6) (N := some 46) (v := ?_) (a' := ?_) #[true, true, true, true, true, true, true, false, true, false, false] rfl rfl (any_of HT_.out (by kernel_rfl)) (fun _ _ _ h => h) (Or.inl ⟨by rfl, ?_⟩) ?_ ?_
                  rotate_left
                  · intro w'
                    go_simp
                    with_reducible rfl
                  rotate_left
                  · simp only [Act.put, List.setIfInBounds_toArray, List.set_cons_zero, List.set_cons_succ, i64_w, i32_w]
                    rfl
                  refine pure_ (i := 7) (N := some 47) (v := ?_) (a' := ?_) #[true, true, true, true, true, true, true, true, true, false, false] rfl rfl (any_of HT_.out (by kernel_rfl)) (fun _ _ _ h => h) (Or.inl ⟨by rfl, ?_⟩) ?_ ?_
                  rotate_left
                  · intro w'
                    go_simp
                    with_reducible rfl
                  rotate_left
                  · simp only [Act.put, List.setIfInBounds_toArray, List.set_cons_zero, List.set_cons_succ, i64_w, i32_w]
                    rfl
                  exact norm_ (by simp only [putAll, Act.put, List.setIfInBounds_toArray, List.set_cons_zero, List.set_cons_succ]) (hCont (v253, gb256) _ ⟨hHeld, (by (with_reducible repeat (first | apply Kd.R_alloc | apply Kd.R_drewN | apply Kd.R_drew)); exact Kd.R_mono HO254.out (fun _ hk => hk.2)), (by (with_reducible repeat (first | apply Kd.N_alloc | apply Kd.N_drewN | apply Kd.N_drew)); exact Kd.N_mono HO_12.out (fun _ hk => ⟨hk.2, ⟨hk.1.1.1, ⟨hk.1.1.2, hk.1.2⟩⟩⟩)), (by (with_reducible repeat (first | apply Kd.R_alloc | apply Kd.R_drewN | apply Kd.R_drew)); exact Kd.R_mono HO_242001.out (fun _ hk => hk.2)), (by (with_reducible repeat (first | refine blk_drewN ?_ _ | refine blk_drew ?_ | refine blk_alloc ?_ _)); exact BK241.out), (by (with_reducible repeat (first | refine blk_drewN ?_ _ | refine blk_drew ?_ | refine blk_alloc ?_ _)); exact BK256.out), GW256.out, GE256.out, NB241_256.out, NB256_241.out, (by repeat (first | (with_reducible first | exact HB.out | apply below_alloc | apply pw_below_drewN | apply below_drew1 | refine below_set ?_ GE241.out | refine below_set ?_ GE256.out) | exact HB.out))⟩)
              rintro ⟨v253, gb256⟩ w44 ⟨hS_, h0_, h1_, h2_, h3_, h4_, h5_, h6_, h7_, h8_, h9_⟩
              have n0_ : Aside0 (Kd.R (Kd.int .i64) 3 w44 w.heap.size (fun k_ => some k_ ≠ (.slice Ao38 x242001_12.length co38 : Value).ownBlock) v253 t252) := ⟨h0_⟩
              have n1_ : Aside0 (Kd.N k27 27 w44 w.heap.size (fun k_ => some k_ ≠ (v253 : Value).ownBlock ∧ some k_ ≠ (.slice Ao38 x242001_12.length co38 : Value).ownBlock ∧ k_ ≠ gb241 ∧ k_ ≠ gb256) (.slice Ao39 y235.length co39) y235) := ⟨h1_⟩
              have n2_ : Aside0 (Kd.R (Kd.int .i64) 3 w44 w.heap.size (fun k_ => some k_ ≠ (v253 : Value).ownBlock) (.slice Ao38 x242001_12.length co38) x242001_12) := ⟨h2_⟩
              have n3_ : Aside0 (w44.heap[gb241]? = some (.cells #[.int .i64 4, .slice Ao38 x242001_12.length co38] 30 (0, 0))) := ⟨h3_⟩
              have n4_ : Aside0 (w44.heap[gb256]? = some (.cells #[.int .i64 0, .slice none 0 0] 27 (0, 0))) := ⟨h4_⟩
              have n5_ : Aside0 (w.heap.size ≤ gb256) := ⟨h5_⟩
              have n6_ : Aside0 (w.heap.size ≤ gb256) := ⟨h6_⟩
              have n7_ : Aside0 (gb241 ≠ gb256) := ⟨h7_⟩
              have n8_ : Aside0 (gb256 ≠ gb241) := ⟨h8_⟩
              have n9_ : Aside0 (Below w.heap.size w w44) := ⟨h9_⟩
              clear HO_12
              clear HO_242001
              clear BK241
              clear HB
              clear h0_ h1_ h2_ h3_ h4_ h5_ h6_ h7_ h8_ h9_
              have HO254 := n0_
              have HO_12 := n1_
              have HO_242001 := n2_
              have BK241 := n3_
              have BK256 := n4_
              have GW256 := n5_
              have GE256 := n6_
              have NB241_256 := n7_
              have NB256_241 := n8_
              have HB := n9_
              clear n0_ n1_ n2_ n3_ n4_ n5_ n6_ n7_ n8_ n9_
              have hHeld : w44.cell? ⟨gb241, 0, none⟩ = some (.int .i64 4) ∧ w44.cell? ⟨gb241, 1, none⟩ = some (.slice Ao38 x242001_12.length co38) := hS_
              obtain ⟨Ao46, co46, eo46⟩ := Kd.R_slice HO254.out
              (first | subst eo46 | (injection eo46 with f1_ f2_ f3_; have f4_ := f1_.symm; have f5_ := f3_.symm; clear f1_ f2_ f3_; subst f4_; subst f5_))
              refine norm_ (a' := ?_) ?_ ?_
              rotate_left
              · simp only [putAll, Act.put, List.setIfInBounds_toArray, List.set_cons_zero, List.set_cons_succ]
                rfl
              refine one_ (i := 9) (N := none) #[true, true, true, true, true, true, true, true, true, true, false] rfl rfl (one_of HT_.out (by kernel_rfl)) (by decide) (fun K hK => ?_)
              have hs45 : w44.cell? ⟨gb256, 0, none⟩ = some (.int .i64 0) := (blk_cell BK256.out 0).trans rfl
              have hfs45 := blk_frozen BK256.out 0
              have hns45_0 := NB241_256.out
              have hms45_0 := NB256_241.out
              have hs47 : w44.cell? ⟨gb256, 1, none⟩ = some (.slice none 0 0) := (blk_cell BK256.out 1).trans rfl
              have hfs47 := blk_frozen BK256.out 1
              have hns47_0 := NB241_256.out
              have hms47_0 := NB256_241.out
              refine skip_ (w1 := ?_) (by rfl) rfl ?_ ?_
              rotate_left
              · go_simp
                rfl
              refine hK.out _ _ ⟨((cell_far (p := ⟨gb256, _, none⟩) NB241_256.out _).trans (((cell_far (p := ⟨gb256, _, none⟩) NB241_256.out _).trans (hHeld.1)))), ((cell_far (p := ⟨gb256, _, none⟩) NB241_256.out _).trans (((cell_far (p := ⟨gb256, _, none⟩) NB241_256.out _).trans (hHeld.2))))⟩ (fun hHeld => ?_)
              clear hK K
              refine pure_ (i := 10) (N := some 15) (v := ?_) (a' := ?_) #[true, true, true, true, true, true, true, true, true, true, true] rfl rfl (any_of HT_.out (by kernel_rfl)) (fun _ _ _ h => h) (Or.inl ⟨by rfl, ?_⟩) ?_ ?_
              rotate_left
              · intro w'
                go_simp
                with_reducible rfl
              rotate_left
              · simp only [Act.put, List.setIfInBounds_toArray, List.set_cons_zero, List.set_cons_succ, i64_w, i32_w]
                rfl
              refine done_ (done_of HT_.out (by kernel_rfl)) ?_
              try go_wp2
              go_ret
              exact ⟨by first | rfl | (simp [errW_none, errW_some] <;> rfl) | (simp only [← hji12]; first | rfl | (simp [errW_none, errW_some] <;> rfl)) | (simp [*, errW_none, errW_some] <;> rfl), by repeat (first | (with_reducible first | exact HB.out | apply below_alloc | apply pw_below_drewN | apply below_drew1 | refine below_set ?_ GE241.out | refine below_set ?_ GE256.out) | exact HB.out)⟩
            · rw [if_neg c37] at H
              have c37b0 : decide ((wrap64 (t224 - 1)) < 1) = false := decide_eq_false c37
              clear c37
              by_cases c48 : (wrap64 (t224 - 1)) > 12
              · rw [if_pos c48] at H
                have c48b0 : decide (12 < (wrap64 (t224 - 1))) = true := decide_eq_true c48
                clear c48
                obtain rfl := Option.some.inj H
                obtain ⟨Ao49, co49, eo49⟩ := Kd.R_slice HO_242001.out
                subst eo49
                obtain ⟨Ao50, co50, eo50⟩ := Kd.N_slice HO_12.out
                subst eo50
                try go_wp2
                have n0_ := Aside0.mk (Kd.N_drew HO_12.out)
                have n1_ := Aside0.mk (Kd.R_drew HO_242001.out)
                have n2_ := Aside0.mk (blk_drew BK241.out)
                have n3_ := Aside0.mk (below_drew1 HB.out)
                clear HO_12
                clear HO_242001
                clear BK241
                clear HB
                have HO_12 := n0_
                have HO_242001 := n1_
                have BK241 := n2_
                have HB := n3_
                clear n0_ n1_ n2_ n3_
                refine start_ (n := 11) (S := fun w' => w'.cell? ⟨gb241, 0, none⟩ = some (.int .i64 4) ∧ w'.cell? ⟨gb241, 1, none⟩ = some (.slice Ao49 x242001_12.length co49)) (ds := []) #[false, false, false, false, false, false, false, false, false, false, false] (by kernel_rfl) rfl rfl ⟨(blk_cell BK241.out 0).trans rfl, (blk_cell BK241.out 1).trans rfl⟩ (fun hHeld => ?_); refine with_tabW interlocutorlaw8_ActHalves.tab12 interlocutorlaw8_ActHalves.bits12 (fun HT_ HW_ => ?_)
                generalize wc.drew = w51 at HO_12 HO_242001 BK241 HB hHeld ⊢
                refine pure_ (i := 1) (N := some 42) (v := ?_) (a' := ?_) #[false, true, false, false, false, false, false, false, false, false, false] rfl rfl (any_of HT_.out (by kernel_rfl)) (fun _ _ _ h => h) (Or.inl ⟨by rfl, ?_⟩) ?_ ?_
                rotate_left
                · intro w'
                  go_simp
                  with_reducible rfl
                rotate_left
                · simp only [Act.put, List.setIfInBounds_toArray, List.set_cons_zero, List.set_cons_succ, i64_w, i32_w]
                  rfl
                refine pure_ (i := 2) (N := some 43) (v := ?_) (a' := ?_) #[false, true, true, false, false, false, false, false, false, false, false] rfl rfl (any_of HT_.out (by kernel_rfl)) (fun _ _ _ h => h) (Or.inl ⟨by rfl, ?_⟩) ?_ ?_
                rotate_left
                · intro w'
                  go_simp
                  with_reducible rfl
                rotate_left
                · simp only [Act.put, List.setIfInBounds_toArray, List.set_cons_zero, List.set_cons_succ, i64_w, i32_w]
                  rfl
                refine take_ (i := 0) (N := some 41) (v := ?_) (a' := ?_) #[true, true, true, false, false, false, false, false, false, false, false] rfl rfl (take_ofW HT_.out HW_.out (by kernel_rfl)) (fun _ _ _ h => h) (Or.inl ⟨by rfl, ?_⟩) hHeld ?_ ?_
                rotate_left
                · rintro w' ⟨s0, s1⟩
                  go_simp
                  with_reducible rfl
                rotate_left
                · simp only [Act.put, List.setIfInBounds_toArray, List.set_cons_zero, List.set_cons_succ, i64_w, i32_w]
                  rfl
                refine join_ (σ := Value × Nat) 2 #[true, true, true, true, true, true, true, true, true, false, false] (fun s_ => [(44, .agg #[.int .i64 t245, .int .i64 t246, .int .i64 t247, .int .i64 t248, .int .i64 t249, .int .i64 t250]), (45, .tuple #[.agg #[.int .i64 t251, s_.1], .bool t255]), (14, .pointer (some ⟨s_.2, 0, none⟩)), (40, .tuple #[.agg #[.int .i64 t251, s_.1], .bool t255]), (46, .agg #[.int .i64 t251, s_.1]), (47, .bool t255)]) (fun s_ w' => (w'.cell? ⟨gb241, 0, none⟩ = some (.int .i64 4) ∧ w'.cell? ⟨gb241, 1, none⟩ = some (.slice Ao49 x242001_12.length co49)) ∧ (Kd.R (Kd.int .i64) 3 w' w.heap.size (fun k_ => some k_ ≠ (.slice Ao49 x242001_12.length co49 : Value).ownBlock) s_.1 t252) ∧ (Kd.N k27 27 w' w.heap.size (fun k_ => some k_ ≠ (s_.1 : Value).ownBlock ∧ some k_ ≠ (.slice Ao49 x242001_12.length co49 : Value).ownBlock ∧ k_ ≠ gb241 ∧ k_ ≠ s_.2) (.slice Ao50 y235.length co50) y235) ∧ (Kd.R (Kd.int .i64) 3 w' w.heap.size (fun k_ => some k_ ≠ (s_.1 : Value).ownBlock) (.slice Ao49 x242001_12.length co49) x242001_12) ∧ (w'.heap[gb241]? = some (.cells #[.int .i64 4, .slice Ao49 x242001_12.length co49] 30 (0, 0))) ∧ (w'.heap[s_.2]? = some (.cells #[.int .i64 0, .slice none 0 0] 27 (0, 0))) ∧ (w.heap.size ≤ s_.2) ∧ (w.heap.size ≤ s_.2) ∧ (gb241 ≠ s_.2) ∧ (s_.2 ≠ gb241) ∧ (Below w.heap.size w w')) ?_ ?_
                rotate_left
                · intro hCont
                  refine two_ (i := 3) (j := 8) (Ni := some 44) (Nj := some 14) #[true, true, true, true, false, false, false, false, false, false, false] #[true, true, true, false, false, false, false, false, true, false, false] rfl rfl rfl rfl (two_of HT_.out (by kernel_rfl)) (by decide) (by decide) (fun K hK => ?_) (fun K hK => ?_)
                  · skip
                    refine goes_ Try.func21 (by kernel_rfl) rfl #[.int .i64 a0] (by rfl) rfl rfl (by (try simp only [List.map_toArray, List.map_cons, List.map_nil]); first | done | rfl | (simp only [List.length_drop, List.length_take]; rfl)) ?_
                    with_reducible refine (interlocutorlaw8_Ref.calls a0 t245 t246 t247 t248 t249 t250 _ A35.out).mono ?_
                    rintro e w52 ⟨rfl, hb⟩
                    refine ⟨_, rfl, ?_⟩
                    have n0_ := Aside0.mk (Kd.N_below (by (with_reducible repeat (first | apply Kd.N_alloc | apply Kd.N_drewN | apply Kd.N_drew)); exact HO_12.out) hb)
                    have n1_ := Aside0.mk (Kd.R_below (by (with_reducible repeat (first | apply Kd.R_alloc | apply Kd.R_drewN | apply Kd.R_drew)); exact HO_242001.out) hb)
                    have n2_ := Aside0.mk (blk_below (g := gb241) (o := .cells #[.int .i64 4, .slice Ao49 x242001_12.length co49] 30 (0, 0)) (by (with_reducible repeat (first | refine blk_drewN ?_ _ | refine blk_drew ?_ | refine blk_alloc ?_ _)); exact BK241.out) hb)
                    have n3_ := Aside0.mk (below_step (by repeat (first | (with_reducible first | exact HB.out | apply below_alloc | apply pw_below_drewN | apply below_drew1 | refine below_set ?_ GE241.out) | exact HB.out)) hb)
                    clear HO_12
                    clear HO_242001
                    clear BK241
                    clear HB
                    have HO_12 := n0_
                    have HO_242001 := n1_
                    have BK241 := n2_
                    have HB := n3_
                    clear n0_ n1_ n2_ n3_
                    (try clear hb)
                    (try clear hb2)
                    (try clear hk)
                    (try clear hi)
                    refine hK.out _ _ ⟨(blk_cell BK241.out 0).trans rfl, (blk_cell BK241.out 1).trans rfl⟩ (fun hHeld => ?_)
                    clear hK K
                    refine norm_ (a' := ?_) ?_ ?_
                    rotate_left
                    · show Act.put _ (some 44) _ = _
                      simp only [Act.put, List.setIfInBounds_toArray, List.set_cons_zero, List.set_cons_succ, i64_w, i32_w]
                      rfl
                    refine two_ (i := 4) (j := 8) (Ni := some 45) (Nj := some 14) #[true, true, true, true, true, false, false, false, false, false, false] #[true, true, true, true, false, false, false, false, true, false, false] rfl rfl rfl rfl (two_of HT_.out (by kernel_rfl)) (by decide) (by decide) (fun K hK => ?_) (fun K hK => ?_)
                    · skip
                      refine goes_ Try.func22 (by kernel_rfl) rfl #[.agg #[.int .i64 4, .slice Ao49 x242001_12.length co49], .slice Ao50 y235.length co50, .agg #[.int .i64 t245, .int .i64 t246, .int .i64 t247, .int .i64 t248, .int .i64 t249, .int .i64 t250]] (by rfl) rfl rfl (by (try simp only [List.map_toArray, List.map_cons, List.map_nil]); first | done | rfl | (simp only [List.length_drop, List.length_take]; rfl)) ?_
                      with_reducible refine (act_Do.calls kj12 4 _ _ x242001_12 _ _ y235 t245 t246 t247 t248 t249 t250 t251 t252 t255 _ ?side1 ?side2 ?side3 ?side4 A36.out).mono ?_
                      (case side1 => repeat (first | exact (Kd.R_reads' HO_242001.out).2.2 | (with_reducible refine Kd.C_alloc ?_ _) | (with_reducible refine Kd.C_drewN ?_ _) | (with_reducible refine Kd.C_drew ?_)))
                      (case side2 => exact (Kd.R_reads' HO_242001.out).2.1)
                      (case side3 => repeat (first | exact (Kd.N_reads' HO_12.out).2.2 | (with_reducible refine Kd.C_alloc ?_ _) | (with_reducible refine Kd.C_drewN ?_ _) | (with_reducible refine Kd.C_drew ?_)))
                      (case side4 => exact (Kd.N_reads' HO_12.out).2.1)
                      rintro e w53 ⟨v253, rfl, ho0, hb⟩
                      refine ⟨_, rfl, ?_⟩
                      have n0_ := Aside0.mk (Kd.N_elder' (by (with_reducible repeat (first | apply Kd.N_alloc | apply Kd.N_drewN | apply Kd.N_drew)); exact HO_12.out) (Kd.R_base ho0) hb)
                      have n1_ := Aside0.mk (Kd.R_elder' (by (with_reducible repeat (first | apply Kd.R_alloc | apply Kd.R_drewN | apply Kd.R_drew)); exact HO_242001.out) (Kd.R_base ho0) hb)
                      have n2_ := Aside0.mk (Kd.R_lower (Kd.R_new' ho0 (Kd.R_lt (by (with_reducible repeat (first | apply Kd.R_alloc | apply Kd.R_drewN | apply Kd.R_drew)); exact HO_242001.out))) (below_size (by repeat (first | (with_reducible first | exact HB.out | apply below_alloc | apply pw_below_drewN | apply below_drew1 | refine below_set ?_ GE241.out) | exact HB.out))))
                      have n3_ := Aside0.mk (blk_below (g := gb241) (o := .cells #[.int .i64 4, .slice Ao49 x242001_12.length co49] 30 (0, 0)) (by (with_reducible repeat (first | refine blk_drewN ?_ _ | refine blk_drew ?_ | refine blk_alloc ?_ _)); exact BK241.out) hb)
                      have n4_ := Aside0.mk (below_step (by repeat (first | (with_reducible first | exact HB.out | apply below_alloc | apply pw_below_drewN | apply below_drew1 | refine below_set ?_ GE241.out) | exact HB.out)) hb)
                      clear HO_12
                      clear HO_242001
                      clear BK241
                      clear HB
                      have HO_12 := n0_
                      have HO_242001 := n1_
                      have HO254 := n2_
                      have BK241 := n3_
                      have HB := n4_
                      clear n0_ n1_ n2_ n3_ n4_
                      (try clear hb)
                      (try clear hb2)
                      (try clear hk)
                      (try clear hi)
                      (try clear ho0)
                      refine hK.out _ _ ⟨(blk_cell BK241.out 0).trans rfl, (blk_cell BK241.out 1).trans rfl⟩ (fun hHeld => ?_)
                      clear hK K
                      refine norm_ (a' := ?_) ?_ ?_
                      rotate_left
                      · show Act.put _ (some 45) _ = _
                        simp only [Act.put, List.setIfInBounds_toArray, List.set_cons_zero, List.set_cons_succ, i64_w, i32_w]
                        rfl
                      refine pure_ (i := 5) (N := some 40) (v := ?_) (a' := ?_) #[true, true, true, true, true, true, false, false, false, false, false] rfl rfl (any_of HT_.out (by kernel_rfl)) (fun _ _ _ h => h) (Or.inl ⟨by rfl, ?_⟩) ?_ ?_
                      rotate_left
                      · intro w'
                        go_simp
                        with_reducible rfl
                      rotate_left
                      · simp only [Act.put, List.setIfInBounds_toArray, List.set_cons_zero, List.set_cons_succ, i64_w, i32_w]
                        rfl
                      refine pure_ (i := 6) (N := some 46) (v := ?_) (a' := ?_) #[true, true, true, true, true, true, true, false, false, false, false] rfl rfl (any_of HT_.out (by kernel_rfl)) (fun _ _ _ h => h) (Or.inl ⟨by rfl, ?_⟩) ?_ ?_
                      rotate_left
                      · intro w'
                        go_simp
                        with_reducible rfl
                      rotate_left
                      · simp only [Act.put, List.setIfInBounds_toArray, List.set_cons_zero, List.set_cons_succ, i64_w, i32_w]
                        rfl
                      refine pure_ (i := 7) (N := some 47) (v := ?_) (a' := ?_) #[true, true, true, true, true, true, true, true, false, false, false] rfl rfl (any_of HT_.out (by kernel_rfl)) (fun _ _ _ h => h) (Or.inl ⟨by rfl, ?_⟩) ?_ ?_
                      rotate_left
                      · intro w'
                        go_simp
                        with_reducible rfl
                      rotate_left
                      · simp only [Act.put, List.setIfInBounds_toArray, List.set_cons_zero, List.set_cons_succ, i64_w, i32_w]
                        rfl
                      refine one_ (i := 8) (N := some 14) #[true, true, true, true, true, true, true, true, true, false, false] rfl rfl (one_of HT_.out (by kernel_rfl)) (by decide) (fun K hK => ?_)
                      refine box_step ?hg (N := 14) ?hd (cs := #[.int .i64 0, .slice none 0 0]) (t := 27) ?hr ?_; (case hd => rfl); (case hg => rfl); (case hr => first | (go_simp; done) | (go_simp; rfl))
                      intro gb256 hg w54 hbox hb
                      have n0_ := Aside0.mk (Kd.N_below (Kd.N_elderB (by (with_reducible repeat (first | apply Kd.N_alloc | apply Kd.N_drewN | apply Kd.N_drew)); exact HO_12.out) gb256 (Nat.le_of_eq hg.symm)) hb)
                      have n1_ := Aside0.mk (Kd.R_below (by (with_reducible repeat (first | apply Kd.R_alloc | apply Kd.R_drewN | apply Kd.R_drew)); exact HO_242001.out) hb)
                      have n2_ := Aside0.mk (Kd.R_below (by (with_reducible repeat (first | apply Kd.R_alloc | apply Kd.R_drewN | apply Kd.R_drew)); exact HO254.out) hb)
                      have n3_ := Aside0.mk (blk_below (g := gb241) (o := .cells #[.int .i64 4, .slice Ao49 x242001_12.length co49] 30 (0, 0)) (by (with_reducible repeat (first | refine blk_drewN ?_ _ | refine blk_drew ?_ | refine blk_alloc ?_ _)); exact BK241.out) hb)
                      have n4_ := Aside0.mk (below_step (by repeat (first | (with_reducible first | exact HB.out | apply below_alloc | apply pw_below_drewN | apply below_drew1 | refine below_set ?_ GE241.out) | exact HB.out)) hb)
                      have n5_ := Aside0.mk (hbox)
                      have n6_ := Aside0.mk ((by rw [hg]; exact (below_size (by repeat (first | (with_reducible first | exact HB.out | apply below_alloc | apply pw_below_drewN | apply below_drew1 | refine below_set ?_ GE241.out) | exact HB.out))) : w.heap.size ≤ gb256))
                      have n7_ := Aside0.mk ((by rw [hg]; exact (below_size (by repeat (first | (with_reducible first | exact HB.out | apply below_alloc | apply pw_below_drewN | apply below_drew1 | refine below_set ?_ GE241.out) | exact HB.out))) : w.heap.size ≤ gb256))
                      have n8_ := Aside0.mk ((by rw [hg]; exact Nat.ne_of_lt (blk_lt (g := gb241) (o := .cells #[.int .i64 4, .slice Ao49 x242001_12.length co49] 30 (0, 0)) (by (with_reducible repeat (first | refine blk_drewN ?_ _ | refine blk_drew ?_ | refine blk_alloc ?_ _)); exact BK241.out)) : gb241 ≠ gb256))
                      have n9_ := Aside0.mk ((by rw [hg]; exact Nat.ne_of_gt (blk_lt (g := gb241) (o := .cells #[.int .i64 4, .slice Ao49 x242001_12.length co49] 30 (0, 0)) (by (with_reducible repeat (first | refine blk_drewN ?_ _ | refine blk_drew ?_ | refine blk_alloc ?_ _)); exact BK241.out)) : gb256 ≠ gb241))
                      clear HO_12
                      clear HO_242001
                      clear HO254
                      clear BK241
                      clear HB
                      have HO_12 := n0_
                      have HO_242001 := n1_
                      have HO254 := n2_
                      have BK241 := n3_
                      have HB := n4_
                      have BK256 := n5_
                      have GW256 := n6_
                      have GE256 := n7_
                      have NB241_256 := n8_
                      have NB256_241 := n9_
                      clear n0_ n1_ n2_ n3_ n4_ n5_ n6_ n7_ n8_ n9_
                      clear hb hbox hg
                      refine hK.out _ _ ⟨(blk_cell BK241.out 0).trans rfl, (blk_cell BK241.out 1).trans rfl⟩ (fun hHeld => ?_)
                      clear hK K
                      refine norm_ (a' := ?_) ?_ ?_
                      rotate_left
                      · show Act.put _ (some 14) _ = _
                        simp only [Act.put, List.setIfInBounds_toArray, List.set_cons_zero, List.set_cons_succ, i64_w, i32_w]
                        rfl
                      exact norm_ (by simp only [putAll, Act.put, List.setIfInBounds_toArray, List.set_cons_zero, List.set_cons_succ]) (hCont (v253, gb256) _ ⟨hHeld, (by (with_reducible repeat (first | apply Kd.R_alloc | apply Kd.R_drewN | apply Kd.R_drew)); exact Kd.R_mono HO254.out (fun _ hk => hk.2)), (by (with_reducible repeat (first | apply Kd.N_alloc | apply Kd.N_drewN | apply Kd.N_drew)); exact Kd.N_mono HO_12.out (fun _ hk => ⟨hk.1.2, ⟨hk.1.1.1, ⟨hk.1.1.2, hk.2⟩⟩⟩)), (by (with_reducible repeat (first | apply Kd.R_alloc | apply Kd.R_drewN | apply Kd.R_drew)); exact Kd.R_mono HO_242001.out (fun _ hk => hk.2)), (by (with_reducible repeat (first | refine blk_drewN ?_ _ | refine blk_drew ?_ | refine blk_alloc ?_ _)); exact BK241.out), (by (with_reducible repeat (first | refine blk_drewN ?_ _ | refine blk_drew ?_ | refine blk_alloc ?_ _)); exact BK256.out), GW256.out, GE256.out, NB241_256.out, NB256_241.out, (by repeat (first | (with_reducible first | exact HB.out | apply below_alloc | apply pw_below_drewN | apply below_drew1 | refine below_set ?_ GE241.out | refine below_set ?_ GE256.out) | exact HB.out))⟩)
                    · skip
                      refine box_step ?hg (N := 14) ?hd (cs := #[.int .i64 0, .slice none 0 0]) (t := 27) ?hr ?_; (case hd => rfl); (case hg => rfl); (case hr => first | (go_simp; done) | (go_simp; rfl))
                      intro gb256 hg w53 hbox hb
                      have n0_ := Aside0.mk (Kd.N_below (Kd.N_elderB (by (with_reducible repeat (first | apply Kd.N_alloc | apply Kd.N_drewN | apply Kd.N_drew)); exact HO_12.out) gb256 (Nat.le_of_eq hg.symm)) hb)
                      have n1_ := Aside0.mk (Kd.R_below (by (with_reducible repeat (first | apply Kd.R_alloc | apply Kd.R_drewN | apply Kd.R_drew)); exact HO_242001.out) hb)
                      have n2_ := Aside0.mk (blk_below (g := gb241) (o := .cells #[.int .i64 4, .slice Ao49 x242001_12.length co49] 30 (0, 0)) (by (with_reducible repeat (first | refine blk_drewN ?_ _ | refine blk_drew ?_ | refine blk_alloc ?_ _)); exact BK241.out) hb)
                      have n3_ := Aside0.mk (below_step (by repeat (first | (with_reducible first | exact HB.out | apply below_alloc | apply pw_below_drewN | apply below_drew1 | refine below_set ?_ GE241.out) | exact HB.out)) hb)
                      have n4_ := Aside0.mk (hbox)
                      have n5_ := Aside0.mk ((by rw [hg]; exact (below_size (by repeat (first | (with_reducible first | exact HB.out | apply below_alloc | apply pw_below_drewN | apply below_drew1 | refine below_set ?_ GE241.out) | exact HB.out))) : w.heap.size ≤ gb256))
                      have n6_ := Aside0.mk ((by rw [hg]; exact (below_size (by repeat (first | (with_reducible first | exact HB.out | apply below_alloc | apply pw_below_drewN | apply below_drew1 | refine below_set ?_ GE241.out) | exact HB.out))) : w.heap.size ≤ gb256))
                      have n7_ := Aside0.mk ((by rw [hg]; exact Nat.ne_of_lt (blk_lt (g := gb241) (o := .cells #[.int .i64 4, .slice Ao49 x242001_12.length co49] 30 (0, 0)) (by (with_reducible repeat (first | refine blk_drewN ?_ _ | refine blk_drew ?_ | refine blk_alloc ?_ _)); exact BK241.out)) : gb241 ≠ gb256))
                      have n8_ := Aside0.mk ((by rw [hg]; exact Nat.ne_of_gt (blk_lt (g := gb241) (o := .cells #[.int .i64 4, .slice Ao49 x242001_12.length co49] 30 (0, 0)) (by (with_reducible repeat (first | refine blk_drewN ?_ _ | refine blk_drew ?_ | refine blk_alloc ?_ _)); exact BK241.out)) : gb256 ≠ gb241))
                      clear HO_12
                      clear HO_242001
                      clear BK241
                      clear HB
                      have HO_12 := n0_
                      have HO_242001 := n1_
                      have BK241 := n2_
                      have HB := n3_
                      have BK256 := n4_
                      have GW256 := n5_
                      have GE256 := n6_
                      have NB241_256 := n7_
                      have NB256_241 := n8_
                      clear n0_ n1_ n2_ n3_ n4_ n5_ n6_ n7_ n8_
                      clear hb hbox hg
                      refine hK.out _ _ ⟨(blk_cell BK241.out 0).trans rfl, (blk_cell BK241.out 1).trans rfl⟩ (fun hHeld => ?_)
                      clear hK K
                      refine norm_ (a' := ?_) ?_ ?_
                      rotate_left
                      · show Act.put _ (some 14) _ = _
                        simp only [Act.put, List.setIfInBounds_toArray, List.set_cons_zero, List.set_cons_succ, i64_w, i32_w]
                        rfl
                      refine one_ (i := 4) (N := some 45) #[true, true, true, true, true, false, false, false, true, false, false] rfl rfl (one_of HT_.out (by kernel_rfl)) (by decide) (fun K hK => ?_)
                      refine goes_ Try.func22 (by kernel_rfl) rfl #[.agg #[.int .i64 4, .slice Ao49 x242001_12.length co49], .slice Ao50 y235.length co50, .agg #[.int .i64 t245, .int .i64 t246, .int .i64 t247, .int .i64 t248, .int .i64 t249, .int .i64 t250]] (by rfl) rfl rfl (by (try simp only [List.map_toArray, List.map_cons, List.map_nil]); first | done | rfl | (simp only [List.length_drop, List.length_take]; rfl)) ?_
                      with_reducible refine (act_Do.calls kj12 4 _ _ x242001_12 _ _ y235 t245 t246 t247 t248 t249 t250 t251 t252 t255 _ ?side1 ?side2 ?side3 ?side4 A36.out).mono ?_
                      (case side1 => repeat (first | exact (Kd.R_reads' HO_242001.out).2.2 | (with_reducible refine Kd.C_alloc ?_ _) | (with_reducible refine Kd.C_drewN ?_ _) | (with_reducible refine Kd.C_drew ?_)))
                      (case side2 => exact (Kd.R_reads' HO_242001.out).2.1)
                      (case side3 => repeat (first | exact (Kd.N_reads' HO_12.out).2.2 | (with_reducible refine Kd.C_alloc ?_ _) | (with_reducible refine Kd.C_drewN ?_ _) | (with_reducible refine Kd.C_drew ?_)))
                      (case side4 => exact (Kd.N_reads' HO_12.out).2.1)
                      rintro e w54 ⟨v253, rfl, ho0, hb⟩
                      refine ⟨_, rfl, ?_⟩
                      have n0_ := Aside0.mk (Kd.N_elder' (by (with_reducible repeat (first | apply Kd.N_alloc | apply Kd.N_drewN | apply Kd.N_drew)); exact HO_12.out) (Kd.R_base ho0) hb)
                      have n1_ := Aside0.mk (Kd.R_elder' (by (with_reducible repeat (first | apply Kd.R_alloc | apply Kd.R_drewN | apply Kd.R_drew)); exact HO_242001.out) (Kd.R_base ho0) hb)
                      have n2_ := Aside0.mk (Kd.R_lower (Kd.R_new' ho0 (Kd.R_lt (by (with_reducible repeat (first | apply Kd.R_alloc | apply Kd.R_drewN | apply Kd.R_drew)); exact HO_242001.out))) (below_size (by repeat (first | (with_reducible first | exact HB.out | apply below_alloc | apply pw_below_drewN | apply below_drew1 | refine below_set ?_ GE241.out | refine below_set ?_ GE256.out) | exact HB.out))))
                      have n3_ := Aside0.mk (blk_below (g := gb241) (o := .cells #[.int .i64 4, .slice Ao49 x242001_12.length co49] 30 (0, 0)) (by (with_reducible repeat (first | refine blk_drewN ?_ _ | refine blk_drew ?_ | refine blk_alloc ?_ _)); exact BK241.out) hb)
                      have n4_ := Aside0.mk (blk_below (g := gb256) (o := .cells #[.int .i64 0, .slice none 0 0] 27 (0, 0)) (by (with_reducible repeat (first | refine blk_drewN ?_ _ | refine blk_drew ?_ | refine blk_alloc ?_ _)); exact BK256.out) hb)
                      have n5_ := Aside0.mk (below_step (by repeat (first | (with_reducible first | exact HB.out | apply below_alloc | apply pw_below_drewN | apply below_drew1 | refine below_set ?_ GE241.out | refine below_set ?_ GE256.out) | exact HB.out)) hb)
                      clear HO_12
                      clear HO_242001
                      clear BK241
                      clear BK256
                      clear HB
                      have HO_12 := n0_
                      have HO_242001 := n1_
                      have HO254 := n2_
                      have BK241 := n3_
                      have BK256 := n4_
                      have HB := n5_
                      clear n0_ n1_ n2_ n3_ n4_ n5_
                      (try clear hb)
                      (try clear hb2)
                      (try clear hk)
                      (try clear hi)
                      (try clear ho0)
                      refine hK.out _ _ ⟨(blk_cell BK241.out 0).trans rfl, (blk_cell BK241.out 1).trans rfl⟩ (fun hHeld => ?_)
                      clear hK K
                      refine norm_ (a' := ?_) ?_ ?_
                      rotate_left
                      · show Act.put _ (some 45) _ = _
                        simp only [Act.put, List.setIfInBounds_toArray, List.set_cons_zero, List.set_cons_succ, i64_w, i32_w]
                        rfl
                      refine pure_ (i := 5) (N := some 40) (v := ?_) (a' := ?_) #[true, true, true, true, true, true, false, false, true, false, false] rfl rfl (any_of HT_.out (by kernel_rfl)) (fun _ _ _ h => h) (Or.inl ⟨by rfl, ?_⟩) ?_ ?_
                      rotate_left
                      · intro w'
                        go_simp
                        with_reducible rfl
                      rotate_left
                      · simp only [Act.put, List.setIfInBounds_toArray, List.set_cons_zero, List.set_cons_succ, i64_w, i32_w]
                        rfl
                      refine pure_ (i := 6) (N := some 46) (v := ?_) (a' := ?_) #[true, true, true, true, true, true, true, false, true, false, false] rfl rfl (any_of HT_.out (by kernel_rfl)) (fun _ _ _ h => h) (Or.inl ⟨by rfl, ?_⟩) ?_ ?_
                      rotate_left
                      · intro w'
                        go_simp
                        with_reducible rfl
                      rotate_left
                      · simp only [Act.put, List.setIfInBounds_toArray, List.set_cons_zero, List.set_cons_succ, i64_w, i32_w]
                        rfl
                      refine pure_ (i := 7) (N := some 47) (v := ?_) (a' := ?_) #[true, true, true, true, true, true, true, true, true, false, false] rfl rfl (any_of HT_.out (by kernel_rfl)) (fun _ _ _ h => h) (Or.inl ⟨by rfl, ?_⟩) ?_ ?_
                      rotate_left
                      · intro w'
                        go_simp
                        with_reducible rfl
                      rotate_left
                      · simp only [Act.put, List.setIfInBounds_toArray, List.set_cons_zero, List.set_cons_succ, i64_w, i32_w]
                        rfl
                      exact norm_ (by simp only [putAll, Act.put, List.setIfInBounds_toArray, List.set_cons_zero, List.set_cons_succ]) (hCont (v253, gb256) _ ⟨hHeld, (by (with_reducible repeat (first | apply Kd.R_alloc | apply Kd.R_drewN | apply Kd.R_drew)); exact Kd.R_mono HO254.out (fun _ hk => hk.2)), (by (with_reducible repeat (first | apply Kd.N_alloc | apply Kd.N_drewN | apply Kd.N_drew)); exact Kd.N_mono HO_12.out (fun _ hk => ⟨hk.2, ⟨hk.1.1.1, ⟨hk.1.1.2, hk.1.2⟩⟩⟩)), (by (with_reducible repeat (first | apply Kd.R_alloc | apply Kd.R_drewN | apply Kd.R_drew)); exact Kd.R_mono HO_242001.out (fun _ hk => hk.2)), (by (with_reducible repeat (first | refine blk_drewN ?_ _ | refine blk_drew ?_ | refine blk_alloc ?_ _)); exact BK241.out), (by (with_reducible repeat (first | refine blk_drewN ?_ _ | refine blk_drew ?_ | refine blk_alloc ?_ _)); exact BK256.out), GW256.out, GE256.out, NB241_256.out, NB256_241.out, (by repeat (first | (with_reducible first | exact HB.out | apply below_alloc | apply pw_below_drewN | apply below_drew1 | refine below_set ?_ GE241.out | refine below_set ?_ GE256.out) | exact HB.out))⟩)
                  · skip
                    refine box_step ?hg (N := 14) ?hd (cs := #[.int .i64 0, .slice none 0 0]) (t := 27) ?hr ?_; (case hd => rfl); (case hg => rfl); (case hr => first | (go_simp; done) | (go_simp; rfl))
                    intro gb256 hg w52 hbox hb
                    have n0_ := Aside0.mk (Kd.N_below (Kd.N_elderB (by (with_reducible repeat (first | apply Kd.N_alloc | apply Kd.N_drewN | apply Kd.N_drew)); exact HO_12.out) gb256 (Nat.le_of_eq hg.symm)) hb)
                    have n1_ := Aside0.mk (Kd.R_below (by (with_reducible repeat (first | apply Kd.R_alloc | apply Kd.R_drewN | apply Kd.R_drew)); exact HO_242001.out) hb)
                    have n2_ := Aside0.mk (blk_below (g := gb241) (o := .cells #[.int .i64 4, .slice Ao49 x242001_12.length co49] 30 (0, 0)) (by (with_reducible repeat (first | refine blk_drewN ?_ _ | refine blk_drew ?_ | refine blk_alloc ?_ _)); exact BK241.out) hb)
                    have n3_ := Aside0.mk (below_step (by repeat (first | (with_reducible first | exact HB.out | apply below_alloc | apply pw_below_drewN | apply below_drew1 | refine below_set ?_ GE241.out) | exact HB.out)) hb)
                    have n4_ := Aside0.mk (hbox)
                    have n5_ := Aside0.mk ((by rw [hg]; exact (below_size (by repeat (first | (with_reducible first | exact HB.out | apply below_alloc | apply pw_below_drewN | apply below_drew1 | refine below_set ?_ GE241.out) | exact HB.out))) : w.heap.size ≤ gb256))
                    have n6_ := Aside0.mk ((by rw [hg]; exact (below_size (by repeat (first | (with_reducible first | exact HB.out | apply below_alloc | apply pw_below_drewN | apply below_drew1 | refine below_set ?_ GE241.out) | exact HB.out))) : w.heap.size ≤ gb256))
                    have n7_ := Aside0.mk ((by rw [hg]; exact Nat.ne_of_lt (blk_lt (g := gb241) (o := .cells #[.int .i64 4, .slice Ao49 x242001_12.length co49] 30 (0, 0)) (by (with_reducible repeat (first | refine blk_drewN ?_ _ | refine blk_drew ?_ | refine blk_alloc ?_ _)); exact BK241.out)) : gb241 ≠ gb256))
                    have n8_ := Aside0.mk ((by rw [hg]; exact Nat.ne_of_gt (blk_lt (g := gb241) (o := .cells #[.int .i64 4, .slice Ao49 x242001_12.length co49] 30 (0, 0)) (by (with_reducible repeat (first | refine blk_drewN ?_ _ | refine blk_drew ?_ | refine blk_alloc ?_ _)); exact BK241.out)) : gb256 ≠ gb241))
                    clear HO_12
                    clear HO_242001
                    clear BK241
                    clear HB
                    have HO_12 := n0_
                    have HO_242001 := n1_
                    have BK241 := n2_
                    have HB := n3_
                    have BK256 := n4_
                    have GW256 := n5_
                    have GE256 := n6_
                    have NB241_256 := n7_
                    have NB256_241 := n8_
                    clear n0_ n1_ n2_ n3_ n4_ n5_ n6_ n7_ n8_
                    clear hb hbox hg
                    refine hK.out _ _ ⟨(blk_cell BK241.out 0).trans rfl, (blk_cell BK241.out 1).trans rfl⟩ (fun hHeld => ?_)
                    clear hK K
                    refine norm_ (a' := ?_) ?_ ?_
                    rotate_left
                    · show Act.put _ (some 14) _ = _
                      simp only [Act.put, List.setIfInBounds_toArray, List.set_cons_zero, List.set_cons_succ, i64_w, i32_w]
                      rfl
                    refine one_ (i := 3) (N := some 44) #[true, true, true, true, false, false, false, false, true, false, false] rfl rfl (one_of HT_.out (by kernel_rfl)) (by decide) (fun K hK => ?_)
                    refine goes_ Try.func21 (by kernel_rfl) rfl #[.int .i64 a0] (by rfl) rfl rfl (by (try simp only [List.map_toArray, List.map_cons, List.map_nil]); first | done | rfl | (simp only [List.length_drop, List.length_take]; rfl)) ?_
                    with_reducible refine (interlocutorlaw8_Ref.calls a0 t245 t246 t247 t248 t249 t250 _ A35.out).mono ?_
                    rintro e w53 ⟨rfl, hb⟩
                    refine ⟨_, rfl, ?_⟩
                    have n0_ := Aside0.mk (Kd.N_below (by (with_reducible repeat (first | apply Kd.N_alloc | apply Kd.N_drewN | apply Kd.N_drew)); exact HO_12.out) hb)
                    have n1_ := Aside0.mk (Kd.R_below (by (with_reducible repeat (first | apply Kd.R_alloc | apply Kd.R_drewN | apply Kd.R_drew)); exact HO_242001.out) hb)
                    have n2_ := Aside0.mk (blk_below (g := gb241) (o := .cells #[.int .i64 4, .slice Ao49 x242001_12.length co49] 30 (0, 0)) (by (with_reducible repeat (first | refine blk_drewN ?_ _ | refine blk_drew ?_ | refine blk_alloc ?_ _)); exact BK241.out) hb)
                    have n3_ := Aside0.mk (blk_below (g := gb256) (o := .cells #[.int .i64 0, .slice none 0 0] 27 (0, 0)) (by (with_reducible repeat (first | refine blk_drewN ?_ _ | refine blk_drew ?_ | refine blk_alloc ?_ _)); exact BK256.out) hb)
                    have n4_ := Aside0.mk (below_step (by repeat (first | (with_reducible first | exact HB.out | apply below_alloc | apply pw_below_drewN | apply below_drew1 | refine below_set ?_ GE241.out | refine below_set ?_ GE256.out) | exact HB.out)) hb)
                    clear HO_12
                    clear HO_242001
                    clear BK241
                    clear BK256
                    clear HB
                    have HO_12 := n0_
                    have HO_242001 := n1_
                    have BK241 := n2_
                    have BK256 := n3_
                    have HB := n4_
                    clear n0_ n1_ n2_ n3_ n4_
                    (try clear hb)
                    (try clear hb2)
                    (try clear hk)
                    (try clear hi)
                    refine hK.out _ _ ⟨(blk_cell BK241.out 0).trans rfl, (blk_cell BK241.out 1).trans rfl⟩ (fun hHeld => ?_)
                    clear hK K
                    refine norm_ (a' := ?_) ?_ ?_
                    rotate_left
                    · show Act.put _ (some 44) _ = _
                      simp only [Act.put, List.setIfInBounds_toArray, List.set_cons_zero, List.set_cons_succ, i64_w, i32_w]
                      rfl
                    refine one_ (i := 4) (N := some 45) #[true, true, true, true, true, false, false, false, true, false, false] rfl rfl (one_of HT_.out (by kernel_rfl)) (by decide) (fun K hK => ?_)
                    refine goes_ Try.func22 (by kernel_rfl) rfl #[.agg #[.int .i64 4, .slice Ao49 x242001_12.length co49], .slice Ao50 y235.length co50, .agg #[.int .i64 t245, .int .i64 t246, .int .i64 t247, .int .i64 t248, .int .i64 t249, .int .i64 t250]] (by rfl) rfl rfl (by (try simp only [List.map_toArray, List.map_cons, List.map_nil]); first | done | rfl | (simp only [List.length_drop, List.length_take]; rfl)) ?_
                    with_reducible refine (act_Do.calls kj12 4 _ _ x242001_12 _ _ y235 t245 t246 t247 t248 t249 t250 t251 t252 t255 _ ?side1 ?side2 ?side3 ?side4 A36.out).mono ?_
                    (case side1 => repeat (first | exact (Kd.R_reads' HO_242001.out).2.2 | (with_reducible refine Kd.C_alloc ?_ _) | (with_reducible refine Kd.C_drewN ?_ _) | (with_reducible refine Kd.C_drew ?_)))
                    (case side2 => exact (Kd.R_reads' HO_242001.out).2.1)
                    (case side3 => repeat (first | exact (Kd.N_reads' HO_12.out).2.2 | (with_reducible refine Kd.C_alloc ?_ _) | (with_reducible refine Kd.C_drewN ?_ _) | (with_reducible refine Kd.C_drew ?_)))
                    (case side4 => exact (Kd.N_reads' HO_12.out).2.1)
                    rintro e w54 ⟨v253, rfl, ho0, hb⟩
                    refine ⟨_, rfl, ?_⟩
                    have n0_ := Aside0.mk (Kd.N_elder' (by (with_reducible repeat (first | apply Kd.N_alloc | apply Kd.N_drewN | apply Kd.N_drew)); exact HO_12.out) (Kd.R_base ho0) hb)
                    have n1_ := Aside0.mk (Kd.R_elder' (by (with_reducible repeat (first | apply Kd.R_alloc | apply Kd.R_drewN | apply Kd.R_drew)); exact HO_242001.out) (Kd.R_base ho0) hb)
                    have n2_ := Aside0.mk (Kd.R_lower (Kd.R_new' ho0 (Kd.R_lt (by (with_reducible repeat (first | apply Kd.R_alloc | apply Kd.R_drewN | apply Kd.R_drew)); exact HO_242001.out))) (below_size (by repeat (first | (with_reducible first | exact HB.out | apply below_alloc | apply pw_below_drewN | apply below_drew1 | refine below_set ?_ GE241.out | refine below_set ?_ GE256.out) | exact HB.out))))
                    have n3_ := Aside0.mk (blk_below (g := gb241) (o := .cells #[.int .i64 4, .slice Ao49 x242001_12.length co49] 30 (0, 0)) (by (with_reducible repeat (first | refine blk_drewN ?_ _ | refine blk_drew ?_ | refine blk_alloc ?_ _)); exact BK241.out) hb)
                    have n4_ := Aside0.mk (blk_below (g := gb256) (o := .cells #[.int .i64 0, .slice none 0 0] 27 (0, 0)) (by (with_reducible repeat (first | refine blk_drewN ?_ _ | refine blk_drew ?_ | refine blk_alloc ?_ _)); exact BK256.out) hb)
                    have n5_ := Aside0.mk (below_step (by repeat (first | (with_reducible first | exact HB.out | apply below_alloc | apply pw_below_drewN | apply below_drew1 | refine below_set ?_ GE241.out | refine below_set ?_ GE256.out) | exact HB.out)) hb)
                    clear HO_12
                    clear HO_242001
                    clear BK241
                    clear BK256
                    clear HB
                    have HO_12 := n0_
                    have HO_242001 := n1_
                    have HO254 := n2_
                    have BK241 := n3_
                    have BK256 := n4_
                    have HB := n5_
                    clear n0_ n1_ n2_ n3_ n4_ n5_
                    (try clear hb)
                    (try clear hb2)
                    (try clear hk)
                    (try clear hi)
                    (try clear ho0)
                    refine hK.out _ _ ⟨(blk_cell BK241.out 0).trans rfl, (blk_cell BK241.out 1).trans rfl⟩ (fun hHeld => ?_)
                    clear hK K
                    refine norm_ (a' := ?_) ?_ ?_
                    rotate_left
                    · show Act.put _ (some 45) _ = _
                      simp only [Act.put, List.setIfInBounds_toArray, List.set_cons_zero, List.set_cons_succ, i64_w, i32_w]
                      rfl
                    refine pure_ (i := 5) (N := some 40) (v := ?_) (a' := ?_) #[true, true, true, true, true, true, false, false, true, false, false] rfl rfl (any_of HT_.out (by kernel_rfl)) (fun _ _ _ h => h) (Or.inl ⟨by rfl, ?_⟩) ?_ ?_
                    rotate_left
                    · intro w'
                      go_simp
                      with_reducible rfl
                    rotate_left
                    · simp only [Act.put, List.setIfInBounds_toArray, List.set_cons_zero, List.set_cons_succ, i64_w, i32_w]
                      rfl
                    refine pure_ (i := 6) (N := some 46) (v := ?_) (a' := ?_) #[true, true, true, true, true, true, true, false, true, false, false] rfl rfl (any_of HT_.out (by kernel_rfl)) (fun _ _ _ h => h) (Or.inl ⟨by rfl, ?_⟩) ?_ ?_
                    rotate_left
                    · intro w'
                      go_simp
                      with_reducible rfl
                    rotate_left
                    · simp only [Act.put, List.setIfInBounds_toArray, List.set_cons_zero, List.set_cons_succ, i64_w, i32_w]
                      rfl
                    refine pure_ (i := 7) (N := some 47) (v := ?_) (a' := ?_) #[true, true, true, true, true, true, true, true, true, false, false] rfl rfl (any_of HT_.out (by kernel_rfl)) (fun _ _ _ h => h) (Or.inl ⟨by rfl, ?_⟩) ?_ ?_
                    rotate_left
                    · intro w'
                      go_simp
                      with_reducible rfl
                    rotate_left
                    · simp only [Act.put, List.setIfInBounds_toArray, List.set_cons_zero, List.set_cons_succ, i64_w, i32_w]
                      rfl
                    exact norm_ (by simp only [putAll, Act.put, List.setIfInBounds_toArray, List.set_cons_zero, List.set_cons_succ]) (hCont (v253, gb256) _ ⟨hHeld, (by (with_reducible repeat (first | apply Kd.R_alloc | apply Kd.R_drewN | apply Kd.R_drew)); exact Kd.R_mono HO254.out (fun _ hk => hk.2)), (by (with_reducible repeat (first | apply Kd.N_alloc | apply Kd.N_drewN | apply Kd.N_drew)); exact Kd.N_mono HO_12.out (fun _ hk => ⟨hk.2, ⟨hk.1.1.1, ⟨hk.1.1.2, hk.1.2⟩⟩⟩)), (by (with_reducible repeat (first | apply Kd.R_alloc | apply Kd.R_drewN | apply Kd.R_drew)); exact Kd.R_mono HO_242001.out (fun _ hk => hk.2)), (by (with_reducible repeat (first | refine blk_drewN ?_ _ | refine blk_drew ?_ | refine blk_alloc ?_ _)); exact BK241.out), (by (with_reducible repeat (first | refine blk_drewN ?_ _ | refine blk_drew ?_ | refine blk_alloc ?_ _)); exact BK256.out), GW256.out, GE256.out, NB241_256.out, NB256_241.out, (by repeat (first | (with_reducible first | exact HB.out | apply below_alloc | apply pw_below_drewN | apply below_drew1 | refine below_set ?_ GE241.out | refine below_set ?_ GE256.out) | exact HB.out))⟩)
                rintro ⟨v253, gb256⟩ w55 ⟨hS_, h0_, h1_, h2_, h3_, h4_, h5_, h6_, h7_, h8_, h9_⟩
                have n0_ : Aside0 (Kd.R (Kd.int .i64) 3 w55 w.heap.size (fun k_ => some k_ ≠ (.slice Ao49 x242001_12.length co49 : Value).ownBlock) v253 t252) := ⟨h0_⟩
                have n1_ : Aside0 (Kd.N k27 27 w55 w.heap.size (fun k_ => some k_ ≠ (v253 : Value).ownBlock ∧ some k_ ≠ (.slice Ao49 x242001_12.length co49 : Value).ownBlock ∧ k_ ≠ gb241 ∧ k_ ≠ gb256) (.slice Ao50 y235.length co50) y235) := ⟨h1_⟩
                have n2_ : Aside0 (Kd.R (Kd.int .i64) 3 w55 w.heap.size (fun k_ => some k_ ≠ (v253 : Value).ownBlock) (.slice Ao49 x242001_12.length co49) x242001_12) := ⟨h2_⟩
                have n3_ : Aside0 (w55.heap[gb241]? = some (.cells #[.int .i64 4, .slice Ao49 x242001_12.length co49] 30 (0, 0))) := ⟨h3_⟩
                have n4_ : Aside0 (w55.heap[gb256]? = some (.cells #[.int .i64 0, .slice none 0 0] 27 (0, 0))) := ⟨h4_⟩
                have n5_ : Aside0 (w.heap.size ≤ gb256) := ⟨h5_⟩
                have n6_ : Aside0 (w.heap.size ≤ gb256) := ⟨h6_⟩
                have n7_ : Aside0 (gb241 ≠ gb256) := ⟨h7_⟩
                have n8_ : Aside0 (gb256 ≠ gb241) := ⟨h8_⟩
                have n9_ : Aside0 (Below w.heap.size w w55) := ⟨h9_⟩
                clear HO_12
                clear HO_242001
                clear BK241
                clear HB
                clear h0_ h1_ h2_ h3_ h4_ h5_ h6_ h7_ h8_ h9_
                have HO254 := n0_
                have HO_12 := n1_
                have HO_242001 := n2_
                have BK241 := n3_
                have BK256 := n4_
                have GW256 := n5_
                have GE256 := n6_
                have NB241_256 := n7_
                have NB256_241 := n8_
                have HB := n9_
                clear n0_ n1_ n2_ n3_ n4_ n5_ n6_ n7_ n8_ n9_
                have hHeld : w55.cell? ⟨gb241, 0, none⟩ = some (.int .i64 4) ∧ w55.cell? ⟨gb241, 1, none⟩ = some (.slice Ao49 x242001_12.length co49) := hS_
                obtain ⟨Ao57, co57, eo57⟩ := Kd.R_slice HO254.out
                (first | subst eo57 | (injection eo57 with f1_ f2_ f3_; have f4_ := f1_.symm; have f5_ := f3_.symm; clear f1_ f2_ f3_; subst f4_; subst f5_))
                refine norm_ (a' := ?_) ?_ ?_
                rotate_left
                · simp only [putAll, Act.put, List.setIfInBounds_toArray, List.set_cons_zero, List.set_cons_succ]
                  rfl
                refine one_ (i := 9) (N := none) #[true, true, true, true, true, true, true, true, true, true, false] rfl rfl (one_of HT_.out (by kernel_rfl)) (by decide) (fun K hK => ?_)
                have hs56 : w55.cell? ⟨gb256, 0, none⟩ = some (.int .i64 0) := (blk_cell BK256.out 0).trans rfl
                have hfs56 := blk_frozen BK256.out 0
                have hns56_0 := NB241_256.out
                have hms56_0 := NB256_241.out
                have hs58 : w55.cell? ⟨gb256, 1, none⟩ = some (.slice none 0 0) := (blk_cell BK256.out 1).trans rfl
                have hfs58 := blk_frozen BK256.out 1
                have hns58_0 := NB241_256.out
                have hms58_0 := NB256_241.out
                refine skip_ (w1 := ?_) (by rfl) rfl ?_ ?_
                rotate_left
                · go_simp
                  rfl
                refine hK.out _ _ ⟨((cell_far (p := ⟨gb256, _, none⟩) NB241_256.out _).trans (((cell_far (p := ⟨gb256, _, none⟩) NB241_256.out _).trans (hHeld.1)))), ((cell_far (p := ⟨gb256, _, none⟩) NB241_256.out _).trans (((cell_far (p := ⟨gb256, _, none⟩) NB241_256.out _).trans (hHeld.2))))⟩ (fun hHeld => ?_)
                clear hK K
                refine pure_ (i := 10) (N := some 15) (v := ?_) (a' := ?_) #[true, true, true, true, true, true, true, true, true, true, true] rfl rfl (any_of HT_.out (by kernel_rfl)) (fun _ _ _ h => h) (Or.inl ⟨by rfl, ?_⟩) ?_ ?_
                rotate_left
                · intro w'
                  go_simp
                  with_reducible rfl
                rotate_left
                · simp only [Act.put, List.setIfInBounds_toArray, List.set_cons_zero, List.set_cons_succ, i64_w, i32_w]
                  rfl
                refine done_ (done_of HT_.out (by kernel_rfl)) ?_
                try go_wp2
                go_ret
                exact ⟨by first | rfl | (simp [errW_none, errW_some] <;> rfl) | (simp only [← hji12]; first | rfl | (simp [errW_none, errW_some] <;> rfl)) | (simp [*, errW_none, errW_some] <;> rfl), by repeat (first | (with_reducible first | exact HB.out | apply below_alloc | apply pw_below_drewN | apply below_drew1 | refine below_set ?_ GE241.out | refine below_set ?_ GE256.out) | exact HB.out)⟩
              · rw [if_neg c48] at H
                have c48b0 : decide (12 < (wrap64 (t224 - 1))) = false := decide_eq_false c48
                clear c48
                by_cases c59 : x10_12 > 59
                · rw [if_pos c59] at H
                  have c59b0 : decide (59 < x10_12) = true := decide_eq_true c59
                  clear c59
                  obtain rfl := Option.some.inj H
                  obtain ⟨Ao60, co60, eo60⟩ := Kd.R_slice HO_242001.out
                  subst eo60
                  obtain ⟨Ao61, co61, eo61⟩ := Kd.N_slice HO_12.out
                  subst eo61
                  try go_wp2
                  have n0_ := Aside0.mk (Kd.N_drew HO_12.out)
                  have n1_ := Aside0.mk (Kd.R_drew HO_242001.out)
                  have n2_ := Aside0.mk (blk_drew BK241.out)
                  have n3_ := Aside0.mk (below_drew1 HB.out)
                  clear HO_12
                  clear HO_242001
                  clear BK241
                  clear HB
                  have HO_12 := n0_
                  have HO_242001 := n1_
                  have BK241 := n2_
                  have HB := n3_
                  clear n0_ n1_ n2_ n3_
                  refine start_ (n := 11) (S := fun w' => w'.cell? ⟨gb241, 0, none⟩ = some (.int .i64 4) ∧ w'.cell? ⟨gb241, 1, none⟩ = some (.slice Ao60 x242001_12.length co60)) (ds := []) #[false, false, false, false, false, false, false, false, false, false, false] (by kernel_rfl) rfl rfl ⟨(blk_cell BK241.out 0).trans rfl, (blk_cell BK241.out 1).trans rfl⟩ (fun hHeld => ?_); refine with_tabW interlocutorlaw8_ActHalves.tab12 interlocutorlaw8_ActHalves.bits12 (fun HT_ HW_ => ?_)
                  generalize wc.drew = w62 at HO_12 HO_242001 BK241 HB hHeld ⊢
                  refine pure_ (i := 1) (N := some 42) (v := ?_) (a' := ?_) #[false, true, false, false, false, false, false, false, false, false, false] rfl rfl (any_of HT_.out (by kernel_rfl)) (fun _ _ _ h => h) (Or.inl ⟨by rfl, ?_⟩) ?_ ?_
                  rotate_left
                  · intro w'
                    go_simp
                    with_reducible rfl
                  rotate_left
                  · simp only [Act.put, List.setIfInBounds_toArray, List.set_cons_zero, List.set_cons_succ, i64_w, i32_w]
                    rfl
                  refine pure_ (i := 2) (N := some 43) (v := ?_) (a' := ?_) #[false, true, true, false, false, false, false, false, false, false, false] rfl rfl (any_of HT_.out (by kernel_rfl)) (fun _ _ _ h => h) (Or.inl ⟨by rfl, ?_⟩) ?_ ?_
                  rotate_left
                  · intro w'
                    go_simp
                    with_reducible rfl
                  rotate_left
                  · simp only [Act.put, List.setIfInBounds_toArray, List.set_cons_zero, List.set_cons_succ, i64_w, i32_w]
                    rfl
                  refine take_ (i := 0) (N := some 41) (v := ?_) (a' := ?_) #[true, true, true, false, false, false, false, false, false, false, false] rfl rfl (take_ofW HT_.out HW_.out (by kernel_rfl)) (fun _ _ _ h => h) (Or.inl ⟨by rfl, ?_⟩) hHeld ?_ ?_
                  rotate_left
                  · rintro w' ⟨s0, s1⟩
                    go_simp
                    with_reducible rfl
                  rotate_left
                  · simp only [Act.put, List.setIfInBounds_toArray, List.set_cons_zero, List.set_cons_succ, i64_w, i32_w]
                    rfl
                  refine join_ (σ := Value × Nat) 2 #[true, true, true, true, true, true, true, true, true, false, false] (fun s_ => [(44, .agg #[.int .i64 t245, .int .i64 t246, .int .i64 t247, .int .i64 t248, .int .i64 t249, .int .i64 t250]), (45, .tuple #[.agg #[.int .i64 t251, s_.1], .bool t255]), (14, .pointer (some ⟨s_.2, 0, none⟩)), (40, .tuple #[.agg #[.int .i64 t251, s_.1], .bool t255]), (46, .agg #[.int .i64 t251, s_.1]), (47, .bool t255)]) (fun s_ w' => (w'.cell? ⟨gb241, 0, none⟩ = some (.int .i64 4) ∧ w'.cell? ⟨gb241, 1, none⟩ = some (.slice Ao60 x242001_12.length co60)) ∧ (Kd.R (Kd.int .i64) 3 w' w.heap.size (fun k_ => some k_ ≠ (.slice Ao60 x242001_12.length co60 : Value).ownBlock) s_.1 t252) ∧ (Kd.N k27 27 w' w.heap.size (fun k_ => some k_ ≠ (s_.1 : Value).ownBlock ∧ some k_ ≠ (.slice Ao60 x242001_12.length co60 : Value).ownBlock ∧ k_ ≠ gb241 ∧ k_ ≠ s_.2) (.slice Ao61 y235.length co61) y235) ∧ (Kd.R (Kd.int .i64) 3 w' w.heap.size (fun k_ => some k_ ≠ (s_.1 : Value).ownBlock) (.slice Ao60 x242001_12.length co60) x242001_12) ∧ (w'.heap[gb241]? = some (.cells #[.int .i64 4, .slice Ao60 x242001_12.length co60] 30 (0, 0))) ∧ (w'.heap[s_.2]? = some (.cells #[.int .i64 0, .slice none 0 0] 27 (0, 0))) ∧ (w.heap.size ≤ s_.2) ∧ (w.heap.size ≤ s_.2) ∧ (gb241 ≠ s_.2) ∧ (s_.2 ≠ gb241) ∧ (Below w.heap.size w w')) ?_ ?_
                  rotate_left
                  · intro hCont
                    refine two_ (i := 3) (j := 8) (Ni := some 44) (Nj := some 14) #[true, true, true, true, false, false, false, false, false, false, false] #[true, true, true, false, false, false, false, false, true, false, false] rfl rfl rfl rfl (two_of HT_.out (by kernel_rfl)) (by decide) (by decide) (fun K hK => ?_) (fun K hK => ?_)
                    · skip
                      refine goes_ Try.func21 (by kernel_rfl) rfl #[.int .i64 a0] (by rfl) rfl rfl (by (try simp only [List.map_toArray, List.map_cons, List.map_nil]); first | done | rfl | (simp only [List.length_drop, List.length_take]; rfl)) ?_
                      with_reducible refine (interlocutorlaw8_Ref.calls a0 t245 t246 t247 t248 t249 t250 _ A35.out).mono ?_
                      rintro e w63 ⟨rfl, hb⟩
                      refine ⟨_, rfl, ?_⟩
                      have n0_ := Aside0.mk (Kd.N_below (by (with_reducible repeat (first | apply Kd.N_alloc | apply Kd.N_drewN | apply Kd.N_drew)); exact HO_12.out) hb)
                      have n1_ := Aside0.mk (Kd.R_below (by (with_reducible repeat (first | apply Kd.R_alloc | apply Kd.R_drewN | apply Kd.R_drew)); exact HO_242001.out) hb)
                      have n2_ := Aside0.mk (blk_below (g := gb241) (o := .cells #[.int .i64 4, .slice Ao60 x242001_12.length co60] 30 (0, 0)) (by (with_reducible repeat (first | refine blk_drewN ?_ _ | refine blk_drew ?_ | refine blk_alloc ?_ _)); exact BK241.out) hb)
                      have n3_ := Aside0.mk (below_step (by repeat (first | (with_reducible first | exact HB.out | apply below_alloc | apply pw_below_drewN | apply below_drew1 | refine below_set ?_ GE241.out) | exact HB.out)) hb)
                      clear HO_12
                      clear HO_242001
                      clear BK241
                      clear HB
                      have HO_12 := n0_
                      have HO_242001 := n1_
                      have BK241 := n2_
                      have HB := n3_
                      clear n0_ n1_ n2_ n3_
                      (try clear hb)
                      (try clear hb2)
                      (try clear hk)
                      (try clear hi)
                      refine hK.out _ _ ⟨(blk_cell BK241.out 0).trans rfl, (blk_cell BK241.out 1).trans rfl⟩ (fun hHeld => ?_)
                      clear hK K
                      refine norm_ (a' := ?_) ?_ ?_
                      rotate_left
                      · show Act.put _ (some 44) _ = _
                        simp only [Act.put, List.setIfInBounds_toArray, List.set_cons_zero, List.set_cons_succ, i64_w, i32_w]
                        rfl
                      refine two_ (i := 4) (j := 8) (Ni := some 45) (Nj := some 14) #[true, true, true, true, true, false, false, false, false, false, false] #[true, true, true, true, false, false, false, false, true, false, false] rfl rfl rfl rfl (two_of HT_.out (by kernel_rfl)) (by decide) (by decide) (fun K hK => ?_) (fun K hK => ?_)
                      · skip
                        refine goes_ Try.func22 (by kernel_rfl) rfl #[.agg #[.int .i64 4, .slice Ao60 x242001_12.length co60], .slice Ao61 y235.length co61, .agg #[.int .i64 t245, .int .i64 t246, .int .i64 t247, .int .i64 t248, .int .i64 t249, .int .i64 t250]] (by rfl) rfl rfl (by (try simp only [List.map_toArray, List.map_cons, List.map_nil]); first | done | rfl | (simp only [List.length_drop, List.length_take]; rfl)) ?_
                        with_reducible refine (act_Do.calls kj12 4 _ _ x242001_12 _ _ y235 t245 t246 t247 t248 t249 t250 t251 t252 t255 _ ?side1 ?side2 ?side3 ?side4 A36.out).mono ?_
                        (case side1 => repeat (first | exact (Kd.R_reads' HO_242001.out).2.2 | (with_reducible refine Kd.C_alloc ?_ _) | (with_reducible refine Kd.C_drewN ?_ _) | (with_reducible refine Kd.C_drew ?_)))
                        (case side2 => exact (Kd.R_reads' HO_242001.out).2.1)
                        (case side3 => repeat (first | exact (Kd.N_reads' HO_12.out).2.2 | (with_reducible refine Kd.C_alloc ?_ _) | (with_reducible refine Kd.C_drewN ?_ _) | (with_reducible refine Kd.C_drew ?_)))
                        (case side4 => exact (Kd.N_reads' HO_12.out).2.1)
                        rintro e w64 ⟨v253, rfl, ho0, hb⟩
                        refine ⟨_, rfl, ?_⟩
                        have n0_ := Aside0.mk (Kd.N_elder' (by (with_reducible repeat (first | apply Kd.N_alloc | apply Kd.N_drewN | apply Kd.N_drew)); exact HO_12.out) (Kd.R_base ho0) hb)
                        have n1_ := Aside0.mk (Kd.R_elder' (by (with_reducible repeat (first | apply Kd.R_alloc | apply Kd.R_drewN | apply Kd.R_drew)); exact HO_242001.out) (Kd.R_base ho0) hb)
                        have n2_ := Aside0.mk (Kd.R_lower (Kd.R_new' ho0 (Kd.R_lt (by (with_reducible repeat (first | apply Kd.R_alloc | apply Kd.R_drewN | apply Kd.R_drew)); exact HO_242001.out))) (below_size (by repeat (first | (with_reducible first | exact HB.out | apply below_alloc | apply pw_below_drewN | apply below_drew1 | refine below_set ?_ GE241.out) | exact HB.out))))
                        have n3_ := Aside0.mk (blk_below (g := gb241) (o := .cells #[.int .i64 4, .slice Ao60 x242001_12.length co60] 30 (0, 0)) (by (with_reducible repeat (first | refine blk_drewN ?_ _ | refine blk_drew ?_ | refine blk_alloc ?_ _)); exact BK241.out) hb)
                        have n4_ := Aside0.mk (below_step (by repeat (first | (with_reducible first | exact HB.out | apply below_alloc | apply pw_below_drewN | apply below_drew1 | refine below_set ?_ GE241.out) | exact HB.out)) hb)
                        clear HO_12
                        clear HO_242001
                        clear BK241
                        clear HB
                        have HO_12 := n0_
                        have HO_242001 := n1_
                        have HO254 := n2_
                        have BK241 := n3_
                        have HB := n4_
                        clear n0_ n1_ n2_ n3_ n4_
                        (try clear hb)
                        (try clear hb2)
                        (try clear hk)
                        (try clear hi)
                        (try clear ho0)
                        refine hK.out _ _ ⟨(blk_cell BK241.out 0).trans rfl, (blk_cell BK241.out 1).trans rfl⟩ (fun hHeld => ?_)
                        clear hK K
                        refine norm_ (a' := ?_) ?_ ?_
                        rotate_left
                        · show Act.put _ (some 45) _ = _
                          simp only [Act.put, List.setIfInBounds_toArray, List.set_cons_zero, List.set_cons_succ, i64_w, i32_w]
                          rfl
                        refine pure_ (i := 5) (N := some 40) (v := ?_) (a' := ?_) #[true, true, true, true, true, true, false, false, false, false, false] rfl rfl (any_of HT_.out (by kernel_rfl)) (fun _ _ _ h => h) (Or.inl ⟨by rfl, ?_⟩) ?_ ?_
                        rotate_left
                        · intro w'
                          go_simp
                          with_reducible rfl
                        rotate_left
                        · simp only [Act.put, List.setIfInBounds_toArray, List.set_cons_zero, List.set_cons_succ, i64_w, i32_w]
                          rfl
                        refine pure_ (i := 6) (N := some 46) (v := ?_) (a' := ?_) #[true, true, true, true, true, true, true, false, false, false, false] rfl rfl (any_of HT_.out (by kernel_rfl)) (fun _ _ _ h => h) (Or.inl ⟨by rfl, ?_⟩) ?_ ?_
                        rotate_left
                        · intro w'
                          go_simp
                          with_reducible rfl
                        rotate_left
                        · simp only [Act.put, List.setIfInBounds_toArray, List.set_cons_zero, List.set_cons_succ, i64_w, i32_w]
                          rfl
                        refine pure_ (i := 7) (N := some 47) (v := ?_) (a' := ?_) #[true, true, true, true, true, true, true, true, false, false, false] rfl rfl (any_of HT_.out (by kernel_rfl)) (fun _ _ _ h => h) (Or.inl ⟨by rfl, ?_⟩) ?_ ?_
                        rotate_left
                        · intro w'
                          go_simp
                          with_reducible rfl
                        rotate_left
                        · simp only [Act.put, List.setIfInBounds_toArray, List.set_cons_zero, List.set_cons_succ, i64_w, i32_w]
                          rfl
                        refine one_ (i := 8) (N := some 14) #[true, true, true, true, true, true, true, true, true, false, false] rfl rfl (one_of HT_.out (by kernel_rfl)) (by decide) (fun K hK => ?_)
                        refine box_step ?hg (N := 14) ?hd (cs := #[.int .i64 0, .slice none 0 0]) (t := 27) ?hr ?_; (case hd => rfl); (case hg => rfl); (case hr => first | (go_simp; done) | (go_simp; rfl))
                        intro gb256 hg w65 hbox hb
                        have n0_ := Aside0.mk (Kd.N_below (Kd.N_elderB (by (with_reducible repeat (first | apply Kd.N_alloc | apply Kd.N_drewN | apply Kd.N_drew)); exact HO_12.out) gb256 (Nat.le_of_eq hg.symm)) hb)
                        have n1_ := Aside0.mk (Kd.R_below (by (with_reducible repeat (first | apply Kd.R_alloc | apply Kd.R_drewN | apply Kd.R_drew)); exact HO_242001.out) hb)
                        have n2_ := Aside0.mk (Kd.R_below (by (with_reducible repeat (first | apply Kd.R_alloc | apply Kd.R_drewN | apply Kd.R_drew)); exact HO254.out) hb)
                        have n3_ := Aside0.mk (blk_below (g := gb241) (o := .cells #[.int .i64 4, .slice Ao60 x242001_12.length co60] 30 (0, 0)) (by (with_reducible repeat (first | refine blk_drewN ?_ _ | refine blk_drew ?_ | refine blk_alloc ?_ _)); exact BK241.out) hb)
                        have n4_ := Aside0.mk (below_step (by repeat (first | (with_reducible first | exact HB.out | apply below_alloc | apply pw_below_drewN | apply below_drew1 | refine below_set ?_ GE241.out) | exact HB.out)) hb)
                        have n5_ := Aside0.mk (hbox)
                        have n6_ := Aside0.mk ((by rw [hg]; exact (below_size (by repeat (first | (with_reducible first | exact HB.out | apply below_alloc | apply pw_below_drewN | apply below_drew1 | refine below_set ?_ GE241.out) | exact HB.out))) : w.heap.size ≤ gb256))
                        have n7_ := Aside0.mk ((by rw [hg]; exact (below_size (by repeat (first | (with_reducible first | exact HB.out | apply below_alloc | apply pw_below_drewN | apply below_drew1 | refine below_set ?_ GE241.out) | exact HB.out))) : w.heap.size ≤ gb256))
                        have n8_ := Aside0.mk ((by rw [hg]; exact Nat.ne_of_lt (blk_lt (g := gb241) (o := .cells #[.int .i64 4, .slice Ao60 x242001_12.length co60] 30 (0, 0)) (by (with_reducible repeat (first | refine blk_drewN ?_ _ | refine blk_drew ?_ | refine blk_alloc ?_ _)); exact BK241.out)) : gb241 ≠ gb256))
                        have n9_ := Aside0.mk ((by rw [hg]; exact Nat.ne_of_gt (blk_lt (g := gb241) (o := .cells #[.int .i64 4, .slice Ao60 x242001_12.length co60] 30 (0, 0)) (by (with_reducible repeat (first | refine blk_drewN ?_ _ | refine blk_drew ?_ | refine blk_alloc ?_ _)); exact BK241.out)) : gb256 ≠ gb241))
                        clear HO_12
                        clear HO_242001
                        clear HO254
                        clear BK241
                        clear HB
                        have HO_12 := n0_
                        have HO_242001 := n1_
                        have HO254 := n2_
                        have BK241 := n3_
                        have HB := n4_
                        have BK256 := n5_
                        have GW256 := n6_
                        have GE256 := n7_
                        have NB241_256 := n8_
                        have NB256_241 := n9_
                        clear n0_ n1_ n2_ n3_ n4_ n5_ n6_ n7_ n8_ n9_
                        clear hb hbox hg
                        refine hK.out _ _ ⟨(blk_cell BK241.out 0).trans rfl, (blk_cell BK241.out 1).trans rfl⟩ (fun hHeld => ?_)
                        clear hK K
                        refine norm_ (a' := ?_) ?_ ?_
                        rotate_left
                        · show Act.put _ (some 14) _ = _
                          simp only [Act.put, List.setIfInBounds_toArray, List.set_cons_zero, List.set_cons_succ, i64_w, i32_w]
                          rfl
                        exact norm_ (by simp only [putAll, Act.put, List.setIfInBounds_toArray, List.set_cons_zero, List.set_cons_succ]) (hCont (v253, gb256) _ ⟨hHeld, (by (with_reducible repeat (first | apply Kd.R_alloc | apply Kd.R_drewN | apply Kd.R_drew)); exact Kd.R_mono HO254.out (fun _ hk => hk.2)), (by (with_reducible repeat (first | apply Kd.N_alloc | apply Kd.N_drewN | apply Kd.N_drew)); exact Kd.N_mono HO_12.out (fun _ hk => ⟨hk.1.2, ⟨hk.1.1.1, ⟨hk.1.1.2, hk.2⟩⟩⟩)), (by (with_reducible repeat (first | apply Kd.R_alloc | apply Kd.R_drewN | apply Kd.R_drew)); exact Kd.R_mono HO_242001.out (fun _ hk => hk.2)), (by (with_reducible repeat (first | refine blk_drewN ?_ _ | refine blk_drew ?_ | refine blk_alloc ?_ _)); exact BK241.out), (by (with_reducible repeat (first | refine blk_drewN ?_ _ | refine blk_drew ?_ | refine blk_alloc ?_ _)); exact BK256.out), GW256.out, GE256.out, NB241_256.out, NB256_241.out, (by repeat (first | (with_reducible first | exact HB.out | apply below_alloc | apply pw_below_drewN | apply below_drew1 | refine below_set ?_ GE241.out | refine below_set ?_ GE256.out) | exact HB.out))⟩)
                      · skip
                        refine box_step ?hg (N := 14) ?hd (cs := #[.int .i64 0, .slice none 0 0]) (t := 27) ?hr ?_; (case hd => rfl); (case hg => rfl); (case hr => first | (go_simp; done) | (go_simp; rfl))
                        intro gb256 hg w64 hbox hb
                        have n0_ := Aside0.mk (Kd.N_below (Kd.N_elderB (by (with_reducible repeat (first | apply Kd.N_alloc | apply Kd.N_drewN | apply Kd.N_drew)); exact HO_12.out) gb256 (Nat.le_of_eq hg.symm)) hb)
                        have n1_ := Aside0.mk (Kd.R_below (by (with_reducible repeat (first | apply Kd.R_alloc | apply Kd.R_drewN | apply Kd.R_drew)); exact HO_242001.out) hb)
                        have n2_ := Aside0.mk (blk_below (g := gb241) (o := .cells #[.int .i64 4, .slice Ao60 x242001_12.length co60] 30 (0, 0)) (by (with_reducible repeat (first | refine blk_drewN ?_ _ | refine blk_drew ?_ | refine blk_alloc ?_ _)); exact BK241.out) hb)
                        have n3_ := Aside0.mk (below_step (by repeat (first | (with_reducible first | exact HB.out | apply below_alloc | apply pw_below_drewN | apply below_drew1 | refine below_set ?_ GE241.out) | exact HB.out)) hb)
                        have n4_ := Aside0.mk (hbox)
                        have n5_ := Aside0.mk ((by rw [hg]; exact (below_size (by repeat (first | (with_reducible first | exact HB.out | apply below_alloc | apply pw_below_drewN | apply below_drew1 | refine below_set ?_ GE241.out) | exact HB.out))) : w.heap.size ≤ gb256))
                        have n6_ := Aside0.mk ((by rw [hg]; exact (below_size (by repeat (first | (with_reducible first | exact HB.out | apply below_alloc | apply pw_below_drewN | apply below_drew1 | refine below_set ?_ GE241.out) | exact HB.out))) : w.heap.size ≤ gb256))
                        have n7_ := Aside0.mk ((by rw [hg]; exact Nat.ne_of_lt (blk_lt (g := gb241) (o := .cells #[.int .i64 4, .slice Ao60 x242001_12.length co60] 30 (0, 0)) (by (with_reducible repeat (first | refine blk_drewN ?_ _ | refine blk_drew ?_ | refine blk_alloc ?_ _)); exact BK241.out)) : gb241 ≠ gb256))
                        have n8_ := Aside0.mk ((by rw [hg]; exact Nat.ne_of_gt (blk_lt (g := gb241) (o := .cells #[.int .i64 4, .slice Ao60 x242001_12.length co60] 30 (0, 0)) (by (with_reducible repeat (first | refine blk_drewN ?_ _ | refine blk_drew ?_ | refine blk_alloc ?_ _)); exact BK241.out)) : gb256 ≠ gb241))
                        clear HO_12
                        clear HO_242001
                        clear BK241
                        clear HB
                        have HO_12 := n0_
                        have HO_242001 := n1_
                        have BK241 := n2_
                        have HB := n3_
                        have BK256 := n4_
                        have GW256 := n5_
                        have GE256 := n6_
                        have NB241_256 := n7_
                        have NB256_241 := n8_
                        clear n0_ n1_ n2_ n3_ n4_ n5_ n6_ n7_ n8_
                        clear hb hbox hg
                        refine hK.out _ _ ⟨(blk_cell BK241.out 0).trans rfl, (blk_cell BK241.out 1).trans rfl⟩ (fun hHeld => ?_)
                        clear hK K
                        refine norm_ (a' := ?_) ?_ ?_
                        rotate_left
                        · show Act.put _ (some 14) _ = _
                          simp only [Act.put, List.setIfInBounds_toArray, List.set_cons_zero, List.set_cons_succ, i64_w, i32_w]
                          rfl
                        refine one_ (i := 4) (N := some 45) #[true, true, true, true, true, false, false, false, true, false, false] rfl rfl (one_of HT_.out (by kernel_rfl)) (by decide) (fun K hK => ?_)
                        refine goes_ Try.func22 (by kernel_rfl) rfl #[.agg #[.int .i64 4, .slice Ao60 x242001_12.length co60], .slice Ao61 y235.length co61, .agg #[.int .i64 t245, .int .i64 t246, .int .i64 t247, .int .i64 t248, .int .i64 t249, .int .i64 t250]] (by rfl) rfl rfl (by (try simp only [List.map_toArray, List.map_cons, List.map_nil]); first | done | rfl | (simp only [List.length_drop, List.length_take]; rfl)) ?_
                        with_reducible refine (act_Do.calls kj12 4 _ _ x242001_12 _ _ y235 t245 t246 t247 t248 t249 t250 t251 t252 t255 _ ?side1 ?side2 ?side3 ?side4 A36.out).mono ?_
                        (case side1 => repeat (first | exact (Kd.R_reads' HO_242001.out).2.2 | (with_reducible refine Kd.C_alloc ?_ _) | (with_reducible refine Kd.C_drewN ?_ _) | (with_reducible refine Kd.C_drew ?_)))
                        (case side2 => exact (Kd.R_reads' HO_242001.out).2.1)
                        (case side3 => repeat (first | exact (Kd.N_reads' HO_12.out).2.2 | (with_reducible refine Kd.C_alloc ?_ _) | (with_reducible refine Kd.C_drewN ?_ _) | (with_reducible refine Kd.C_drew ?_)))
                        (case side4 => exact (Kd.N_reads' HO_12.out).2.1)
                        rintro e w65 ⟨v253, rfl, ho0, hb⟩
                        refine ⟨_, rfl, ?_⟩
                        have n0_ := Aside0.mk (Kd.N_elder' (by (with_reducible repeat (first | apply Kd.N_alloc | apply Kd.N_drewN | apply Kd.N_drew)); exact HO_12.out) (Kd.R_base ho0) hb)
                        have n1_ := Aside0.mk (Kd.R_elder' (by (with_reducible repeat (first | apply Kd.R_alloc | apply Kd.R_drewN | apply Kd.R_drew)); exact HO_242001.out) (Kd.R_base ho0) hb)
                        have n2_ := Aside0.mk (Kd.R_lower (Kd.R_new' ho0 (Kd.R_lt (by (with_reducible repeat (first | apply Kd.R_alloc | apply Kd.R_drewN | apply Kd.R_drew)); exact HO_242001.out))) (below_size (by repeat (first | (with_reducible first | exact HB.out | apply below_alloc | apply pw_below_drewN | apply below_drew1 | refine below_set ?_ GE241.out | refine below_set ?_ GE256.out) | exact HB.out))))
                        have n3_ := Aside0.mk (blk_below (g := gb241) (o := .cells #[.int .i64 4, .slice Ao60 x242001_12.length co60] 30 (0, 0)) (by (with_reducible repeat (first | refine blk_drewN ?_ _ | refine blk_drew ?_ | refine blk_alloc ?_ _)); exact BK241.out) hb)
                        have n4_ := Aside0.mk (blk_below (g := gb256) (o := .cells #[.int .i64 0, .slice none 0 0] 27 (0, 0)) (by (with_reducible repeat (first | refine blk_drewN ?_ _ | refine blk_drew ?_ | refine blk_alloc ?_ _)); exact BK256.out) hb)
                        have n5_ := Aside0.mk (below_step (by repeat (first | (with_reducible first | exact HB.out | apply below_alloc | apply pw_below_drewN | apply below_drew1 | refine below_set ?_ GE241.out | refine below_set ?_ GE256.out) | exact HB.out)) hb)
                        clear HO_12
                        clear HO_242001
                        clear BK241
                        clear BK256
                        clear HB
                        have HO_12 := n0_
                        have HO_242001 := n1_
                        have HO254 := n2_
                        have BK241 := n3_
                        have BK256 := n4_
                        have HB := n5_
                        clear n0_ n1_ n2_ n3_ n4_ n5_
                        (try clear hb)
                        (try clear hb2)
                        (try clear hk)
                        (try clear hi)
                        (try clear ho0)
                        refine hK.out _ _ ⟨(blk_cell BK241.out 0).trans rfl, (blk_cell BK241.out 1).trans rfl⟩ (fun hHeld => ?_)
                        clear hK K
                        refine norm_ (a' := ?_) ?_ ?_
                        rotate_left
                        · show Act.put _ (some 45) _ = _
                          simp only [Act.put, List.setIfInBounds_toArray, List.set_cons_zero, List.set_cons_succ, i64_w, i32_w]
                          rfl
                        refine pure_ (i := 5) (N := some 40) (v := ?_) (a' := ?_) #[true, true, true, true, true, true, false, false, true, false, false] rfl rfl (any_of HT_.out (by kernel_rfl)) (fun _ _ _ h => h) (Or.inl ⟨by rfl, ?_⟩) ?_ ?_
                        rotate_left
                        · intro w'
                          go_simp
                          with_reducible rfl
                        rotate_left
                        · simp only [Act.put, List.setIfInBounds_toArray, List.set_cons_zero, List.set_cons_succ, i64_w, i32_w]
                          rfl
                        refine pure_ (i := 6) (N := some 46) (v := ?_) (a' := ?_) #[true, true, true, true, true, true, true, false, true, false, false] rfl rfl (any_of HT_.out (by kernel_rfl)) (fun _ _ _ h => h) (Or.inl ⟨by rfl, ?_⟩) ?_ ?_
                        rotate_left
                        · intro w'
                          go_simp
                          with_reducible rfl
                        rotate_left
                        · simp only [Act.put, List.setIfInBounds_toArray, List.set_cons_zero, List.set_cons_succ, i64_w, i32_w]
                          rfl
                        refine pure_ (i := 7) (N := some 47) (v := ?_) (a' := ?_) #[true, true, true, true, true, true, true, true, true, false, false] rfl rfl (any_of HT_.out (by kernel_rfl)) (fun _ _ _ h => h) (Or.inl ⟨by rfl, ?_⟩) ?_ ?_
                        rotate_left
                        · intro w'
                          go_simp
                          with_reducible rfl
                        rotate_left
                        · simp only [Act.put, List.setIfInBounds_toArray, List.set_cons_zero, List.set_cons_succ, i64_w, i32_w]
                          rfl
                        exact norm_ (by simp only [putAll, Act.put, List.setIfInBounds_toArray, List.set_cons_zero, List.set_cons_succ]) (hCont (v253, gb256) _ ⟨hHeld, (by (with_reducible repeat (first | apply Kd.R_alloc | apply Kd.R_drewN | apply Kd.R_drew)); exact Kd.R_mono HO254.out (fun _ hk => hk.2)), (by (with_reducible repeat (first | apply Kd.N_alloc | apply Kd.N_drewN | apply Kd.N_drew)); exact Kd.N_mono HO_12.out (fun _ hk => ⟨hk.2, ⟨hk.1.1.1, ⟨hk.1.1.2, hk.1.2⟩⟩⟩)), (by (with_reducible repeat (first | apply Kd.R_alloc | apply Kd.R_drewN | apply Kd.R_drew)); exact Kd.R_mono HO_242001.out (fun _ hk => hk.2)), (by (with_reducible repeat (first | refine blk_drewN ?_ _ | refine blk_drew ?_ | refine blk_alloc ?_ _)); exact BK241.out), (by (with_reducible repeat (first | refine blk_drewN ?_ _ | refine blk_drew ?_ | refine blk_alloc ?_ _)); exact BK256.out), GW256.out, GE256.out, NB241_256.out, NB256_241.out, (by repeat (first | (with_reducible first | exact HB.out | apply below_alloc | apply pw_below_drewN | apply below_drew1 | refine below_set ?_ GE241.out | refine below_set ?_ GE256.out) | exact HB.out))⟩)
                    · skip
                      refine box_step ?hg (N := 14) ?hd (cs := #[.int .i64 0, .slice none 0 0]) (t := 27) ?hr ?_; (case hd => rfl); (case hg => rfl); (case hr => first | (go_simp; done) | (go_simp; rfl))
                      intro gb256 hg w63 hbox hb
                      have n0_ := Aside0.mk (Kd.N_below (Kd.N_elderB (by (with_reducible repeat (first | apply Kd.N_alloc | apply Kd.N_drewN | apply Kd.N_drew)); exact HO_12.out) gb256 (Nat.le_of_eq hg.symm)) hb)
                      have n1_ := Aside0.mk (Kd.R_below (by (with_reducible repeat (first | apply Kd.R_alloc | apply Kd.R_drewN | apply Kd.R_drew)); exact HO_242001.out) hb)
                      have n2_ := Aside0.mk (blk_below (g := gb241) (o := .cells #[.int .i64 4, .slice Ao60 x242001_12.length co60] 30 (0, 0)) (by (with_reducible repeat (first | refine blk_drewN ?_ _ | refine blk_drew ?_ | refine blk_alloc ?_ _)); exact BK241.out) hb)
                      have n3_ := Aside0.mk (below_step (by repeat (first | (with_reducible first | exact HB.out | apply below_alloc | apply pw_below_drewN | apply below_drew1 | refine below_set ?_ GE241.out) | exact HB.out)) hb)
                      have n4_ := Aside0.mk (hbox)
                      have n5_ := Aside0.mk ((by rw [hg]; exact (below_size (by repeat (first | (with_reducible first | exact HB.out | apply below_alloc | apply pw_below_drewN | apply below_drew1 | refine below_set ?_ GE241.out) | exact HB.out))) : w.heap.size ≤ gb256))
                      have n6_ := Aside0.mk ((by rw [hg]; exact (below_size (by repeat (first | (with_reducible first | exact HB.out | apply below_alloc | apply pw_below_drewN | apply below_drew1 | refine below_set ?_ GE241.out) | exact HB.out))) : w.heap.size ≤ gb256))
                      have n7_ := Aside0.mk ((by rw [hg]; exact Nat.ne_of_lt (blk_lt (g := gb241) (o := .cells #[.int .i64 4, .slice Ao60 x242001_12.length co60] 30 (0, 0)) (by (with_reducible repeat (first | refine blk_drewN ?_ _ | refine blk_drew ?_ | refine blk_alloc ?_ _)); exact BK241.out)) : gb241 ≠ gb256))
                      have n8_ := Aside0.mk ((by rw [hg]; exact Nat.ne_of_gt (blk_lt (g := gb241) (o := .cells #[.int .i64 4, .slice Ao60 x242001_12.length co60] 30 (0, 0)) (by (with_reducible repeat (first | refine blk_drewN ?_ _ | refine blk_drew ?_ | refine blk_alloc ?_ _)); exact BK241.out)) : gb256 ≠ gb241))
                      clear HO_12
                      clear HO_242001
                      clear BK241
                      clear HB
                      have HO_12 := n0_
                      have HO_242001 := n1_
                      have BK241 := n2_
                      have HB := n3_
                      have BK256 := n4_
                      have GW256 := n5_
                      have GE256 := n6_
                      have NB241_256 := n7_
                      have NB256_241 := n8_
                      clear n0_ n1_ n2_ n3_ n4_ n5_ n6_ n7_ n8_
                      clear hb hbox hg
                      refine hK.out _ _ ⟨(blk_cell BK241.out 0).trans rfl, (blk_cell BK241.out 1).trans rfl⟩ (fun hHeld => ?_)
                      clear hK K
                      refine norm_ (a' := ?_) ?_ ?_
                      rotate_left
                      · show Act.put _ (some 14) _ = _
                        simp only [Act.put, List.setIfInBounds_toArray, List.set_cons_zero, List.set_cons_succ, i64_w, i32_w]
                        rfl
                      refine one_ (i := 3) (N := some 44) #[true, true, true, true, false, false, false, false, true, false, false] rfl rfl (one_of HT_.out (by kernel_rfl)) (by decide) (fun K hK => ?_)
                      refine goes_ Try.func21 (by kernel_rfl) rfl #[.int .i64 a0] (by rfl) rfl rfl (by (try simp only [List.map_toArray, List.map_cons, List.map_nil]); first | done | rfl | (simp only [List.length_drop, List.length_take]; rfl)) ?_
                      with_reducible refine (interlocutorlaw8_Ref.calls a0 t245 t246 t247 t248 t249 t250 _ A35.out).mono ?_
                      rintro e w64 ⟨rfl, hb⟩
                      refine ⟨_, rfl, ?_⟩
                      have n0_ := Aside0.mk (Kd.N_below (by (with_reducible repeat (first | apply Kd.N_alloc | apply Kd.N_drewN | apply Kd.N_drew)); exact HO_12.out) hb)
                      have n1_ := Aside0.mk (Kd.R_below (by (with_reducible repeat (first | apply Kd.R_alloc | apply Kd.R_drewN | apply Kd.R_drew)); exact HO_242001.out) hb)
                      have n2_ := Aside0.mk (blk_below (g := gb241) (o := .cells #[.int .i64 4, .slice Ao60 x242001_12.length co60] 30 (0, 0)) (by (with_reducible repeat (first | refine blk_drewN ?_ _ | refine blk_drew ?_ | refine blk_alloc ?_ _)); exact BK241.out) hb)
                      have n3_ := Aside0.mk (blk_below (g := gb256) (o := .cells #[.int .i64 0, .slice none 0 0] 27 (0, 0)) (by (with_reducible repeat (first | refine blk_drewN ?_ _ | refine blk_drew ?_ | refine blk_alloc ?_ _)); exact BK256.out) hb)
                      have n4_ := Aside0.mk (below_step (by repeat (first | (with_reducible first | exact HB.out | apply below_alloc | apply pw_below_drewN | apply below_drew1 | refine below_set ?_ GE241.out | refine below_set ?_ GE256.out) | exact HB.out)) hb)
                      clear HO_12
                      clear HO_242001
                      clear BK241
                      clear BK256
                      clear HB
                      have HO_12 := n0_
                      have HO_242001 := n1_
                      have BK241 := n2_
                      have BK256 := n3_
                      have HB := n4_
                      clear n0_ n1_ n2_ n3_ n4_
                      (try clear hb)
                      (try clear hb2)
                      (try clear hk)
                      (try clear hi)
                      refine hK.out _ _ ⟨(blk_cell BK241.out 0).trans rfl, (blk_cell BK241.out 1).trans rfl⟩ (fun hHeld => ?_)
                      clear hK K
                      refine norm_ (a' := ?_) ?_ ?_
                      rotate_left
                      · show Act.put _ (some 44) _ = _
                        simp only [Act.put, List.setIfInBounds_toArray, List.set_cons_zero, List.set_cons_succ, i64_w, i32_w]
                        rfl
                      refine one_ (i := 4) (N := some 45) #[true, true, true, true, true, false, false, false, true, false, false] rfl rfl (one_of HT_.out (by kernel_rfl)) (by decide) (fun K hK => ?_)
                      refine goes_ Try.func22 (by kernel_rfl) rfl #[.agg #[.int .i64 4, .slice Ao60 x242001_12.length co60], .slice Ao61 y235.length co61, .agg #[.int .i64 t245, .int .i64 t246, .int .i64 t247, .int .i64 t248, .int .i64 t249, .int .i64 t250]] (by rfl) rfl rfl (by (try simp only [List.map_toArray, List.map_cons, List.map_nil]); first | done | rfl | (simp only [List.length_drop, List.length_take]; rfl)) ?_
                      with_reducible refine (act_Do.calls kj12 4 _ _ x242001_12 _ _ y235 t245 t246 t247 t248 t249 t250 t251 t252 t255 _ ?side1 ?side2 ?side3 ?side4 A36.out).mono ?_
                      (case side1 => repeat (first | exact (Kd.R_reads' HO_242001.out).2.2 | (with_reducible refine Kd.C_alloc ?_ _) | (with_reducible refine Kd.C_drewN ?_ _) | (with_reducible refine Kd.C_drew ?_)))
                      (case side2 => exact (Kd.R_reads' HO_242001.out).2.1)
                      (case side3 => repeat (first | exact (Kd.N_reads' HO_12.out).2.2 | (with_reducible refine Kd.C_alloc ?_ _) | (with_reducible refine Kd.C_drewN ?_ _) | (with_reducible refine Kd.C_drew ?_)))
                      (case side4 => exact (Kd.N_reads' HO_12.out).2.1)
                      rintro e w65 ⟨v253, rfl, ho0, hb⟩
                      refine ⟨_, rfl, ?_⟩
                      have n0_ := Aside0.mk (Kd.N_elder' (by (with_reducible repeat (first | apply Kd.N_alloc | apply Kd.N_drewN | apply Kd.N_drew)); exact HO_12.out) (Kd.R_base ho0) hb)
                      have n1_ := Aside0.mk (Kd.R_elder' (by (with_reducible repeat (first | apply Kd.R_alloc | apply Kd.R_drewN | apply Kd.R_drew)); exact HO_242001.out) (Kd.R_base ho0) hb)
                      have n2_ := Aside0.mk (Kd.R_lower (Kd.R_new' ho0 (Kd.R_lt (by (with_reducible repeat (first | apply Kd.R_alloc | apply Kd.R_drewN | apply Kd.R_drew)); exact HO_242001.out))) (below_size (by repeat (first | (with_reducible first | exact HB.out | apply below_alloc | apply pw_below_drewN | apply below_drew1 | refine below_set ?_ GE241.out | refine below_set ?_ GE256.out) | exact HB.out))))
                      have n3_ := Aside0.mk (blk_below (g := gb241) (o := .cells #[.int .i64 4, .slice Ao60 x242001_12.length co60] 30 (0, 0)) (by (with_reducible repeat (first | refine blk_drewN ?_ _ | refine blk_drew ?_ | refine blk_alloc ?_ _)); exact BK241.out) hb)
                      have n4_ := Aside0.mk (blk_below (g := gb256) (o := .cells #[.int .i64 0, .slice none 0 0] 27 (0, 0)) (by (with_reducible repeat (first | refine blk_drewN ?_ _ | refine blk_drew ?_ | refine blk_alloc ?_ _)); exact BK256.out) hb)
                      have n5_ := Aside0.mk (below_step (by repeat (first | (with_reducible first | exact HB.out | apply below_alloc | apply pw_below_drewN | apply below_drew1 | refine below_set ?_ GE241.out | refine below_set ?_ GE256.out) | exact HB.out)) hb)
                      clear HO_12
                      clear HO_242001
                      clear BK241
                      clear BK256
                      clear HB
                      have HO_12 := n0_
                      have HO_242001 := n1_
                      have HO254 := n2_
                      have BK241 := n3_
                      have BK256 := n4_
                      have HB := n5_
                      clear n0_ n1_ n2_ n3_ n4_ n5_
                      (try clear hb)
                      (try clear hb2)
                      (try clear hk)
                      (try clear hi)
                      (try clear ho0)
                      refine hK.out _ _ ⟨(blk_cell BK241.out 0).trans rfl, (blk_cell BK241.out 1).trans rfl⟩ (fun hHeld => ?_)
                      clear hK K
                      refine norm_ (a' := ?_) ?_ ?_
                      rotate_left
                      · show Act.put _ (some 45) _ = _
                        simp only [Act.put, List.setIfInBounds_toArray, List.set_cons_zero, List.set_cons_succ, i64_w, i32_w]
                        rfl
                      refine pure_ (i := 5) (N := some 40) (v := ?_) (a' := ?_) #[true, true, true, true, true, true, false, false, true, false, false] rfl rfl (any_of HT_.out (by kernel_rfl)) (fun _ _ _ h => h) (Or.inl ⟨by rfl, ?_⟩) ?_ ?_
                      rotate_left
                      · intro w'
                        go_simp
                        with_reducible rfl
                      rotate_left
                      · simp only [Act.put, List.setIfInBounds_toArray, List.set_cons_zero, List.set_cons_succ, i64_w, i32_w]
                        rfl
                      refine pure_ (i := 6) (N := some 46) (v := ?_) (a' := ?_) #[true, true, true, true, true, true, true, false, true, false, false] rfl rfl (any_of HT_.out (by kernel_rfl)) (fun _ _ _ h => h) (Or.inl ⟨by rfl, ?_⟩) ?_ ?_
                      rotate_left
                      · intro w'
                        go_simp
                        with_reducible rfl
                      rotate_left
                      · simp only [Act.put, List.setIfInBounds_toArray, List.set_cons_zero, List.set_cons_succ, i64_w, i32_w]
                        rfl
                      refine pure_ (i := 7) (N := some 47) (v := ?_) (a' := ?_) #[true, true, true, true, true, true, true, true, true, false, false] rfl rfl (any_of HT_.out (by kernel_rfl)) (fun _ _ _ h => h) (Or.inl ⟨by rfl, ?_⟩) ?_ ?_
                      rotate_left
                      · intro w'
                        go_simp
                        with_reducible rfl
                      rotate_left
                      · simp only [Act.put, List.setIfInBounds_toArray, List.set_cons_zero, List.set_cons_succ, i64_w, i32_w]
                        rfl
                      exact norm_ (by simp only [putAll, Act.put, List.setIfInBounds_toArray, List.set_cons_zero, List.set_cons_succ]) (hCont (v253, gb256) _ ⟨hHeld, (by (with_reducible repeat (first | apply Kd.R_alloc | apply Kd.R_drewN | apply Kd.R_drew)); exact Kd.R_mono HO254.out (fun _ hk => hk.2)), (by (with_reducible repeat (first | apply Kd.N_alloc | apply Kd.N_drewN | apply Kd.N_drew)); exact Kd.N_mono HO_12.out (fun _ hk => ⟨hk.2, ⟨hk.1.1.1, ⟨hk.1.1.2, hk.1.2⟩⟩⟩)), (by (with_reducible repeat (first | apply Kd.R_alloc | apply Kd.R_drewN | apply Kd.R_drew)); exact Kd.R_mono HO_242001.out (fun _ hk => hk.2)), (by (with_reducible repeat (first | refine blk_drewN ?_ _ | refine blk_drew ?_ | refine blk_alloc ?_ _)); exact BK241.out), (by (with_reducible repeat (first | refine blk_drewN ?_ _ | refine blk_drew ?_ | refine blk_alloc ?_ _)); exact BK256.out), GW256.out, GE256.out, NB241_256.out, NB256_241.out, (by repeat (first | (with_reducible first | exact HB.out | apply below_alloc | apply pw_below_drewN | apply below_drew1 | refine below_set ?_ GE241.out | refine below_set ?_ GE256.out) | exact HB.out))⟩)
                  rintro ⟨v253, gb256⟩ w66 ⟨hS_, h0_, h1_, h2_, h3_, h4_, h5_, h6_, h7_, h8_, h9_⟩
                  have n0_ : Aside0 (Kd.R (Kd.int .i64) 3 w66 w.heap.size (fun k_ => some k_ ≠ (.slice Ao60 x242001_12.length co60 : Value).ownBlock) v253 t252) := ⟨h0_⟩
                  have n1_ : Aside0 (Kd.N k27 27 w66 w.heap.size (fun k_ => some k_ ≠ (v253 : Value).ownBlock ∧ some k_ ≠ (.slice Ao60 x242001_12.length co60 : Value).ownBlock ∧ k_ ≠ gb241 ∧ k_ ≠ gb256) (.slice Ao61 y235.length co61) y235) := ⟨h1_⟩
                  have n2_ : Aside0 (Kd.R (Kd.int .i64) 3 w66 w.heap.size (fun k_ => some k_ ≠ (v253 : Value).ownBlock) (.slice Ao60 x242001_12.length co60) x242001_12) := ⟨h2_⟩
                  have n3_ : Aside0 (w66.heap[gb241]? = some (.cells #[.int .i64 4, .slice Ao60 x242001_12.length co60] 30 (0, 0))) := ⟨h3_⟩
                  have n4_ : Aside0 (w66.heap[gb256]? = some (.cells #[.int .i64 0, .slice none 0 0] 27 (0, 0))) := ⟨h4_⟩
                  have n5_ : Aside0 (w.heap.size ≤ gb256) := ⟨h5_⟩
                  have n6_ : Aside0 (w.heap.size ≤ gb256) := ⟨h6_⟩
                  have n7_ : Aside0 (gb241 ≠ gb256) := ⟨h7_⟩
                  have n8_ : Aside0 (gb256 ≠ gb241) := ⟨h8_⟩
                  have n9_ : Aside0 (Below w.heap.size w w66) := ⟨h9_⟩
                  clear HO_12
                  clear HO_242001
                  clear BK241
                  clear HB
                  clear h0_ h1_ h2_ h3_ h4_ h5_ h6_ h7_ h8_ h9_
                  have HO254 := n0_
                  have HO_12 := n1_
                  have HO_242001 := n2_
                  have BK241 := n3_
                  have BK256 := n4_
                  have GW256 := n5_
                  have GE256 := n6_
                  have NB241_256 := n7_
                  have NB256_241 := n8_
                  have HB := n9_
                  clear n0_ n1_ n2_ n3_ n4_ n5_ n6_ n7_ n8_ n9_
                  have hHeld : w66.cell? ⟨gb241, 0, none⟩ = some (.int .i64 4) ∧ w66.cell? ⟨gb241, 1, none⟩ = some (.slice Ao60 x242001_12.length co60) := hS_
                  obtain ⟨Ao68, co68, eo68⟩ := Kd.R_slice HO254.out
                  (first | subst eo68 | (injection eo68 with f1_ f2_ f3_; have f4_ := f1_.symm; have f5_ := f3_.symm; clear f1_ f2_ f3_; subst f4_; subst f5_))
                  refine norm_ (a' := ?_) ?_ ?_
                  rotate_left
                  · simp only [putAll, Act.put, List.setIfInBounds_toArray, List.set_cons_zero, List.set_cons_succ]
                    rfl
                  refine one_ (i := 9) (N := none) #[true, true, true, true, true, true, true, true, true, true, false] rfl rfl (one_of HT_.out (by kernel_rfl)) (by decide) (fun K hK => ?_)
                  have hs67 : w66.cell? ⟨gb256, 0, none⟩ = some (.int .i64 0) := (blk_cell BK256.out 0).trans rfl
                  have hfs67 := blk_frozen BK256.out 0
                  have hns67_0 := NB241_256.out
                  have hms67_0 := NB256_241.out
                  have hs69 : w66.cell? ⟨gb256, 1, none⟩ = some (.slice none 0 0) := (blk_cell BK256.out 1).trans rfl
                  have hfs69 := blk_frozen BK256.out 1
                  have hns69_0 := NB241_256.out
                  have hms69_0 := NB256_241.out
                  refine skip_ (w1 := ?_) (by rfl) rfl ?_ ?_
                  rotate_left
                  · go_simp
                    rfl
                  refine hK.out _ _ ⟨((cell_far (p := ⟨gb256, _, none⟩) NB241_256.out _).trans (((cell_far (p := ⟨gb256, _, none⟩) NB241_256.out _).trans (hHeld.1)))), ((cell_far (p := ⟨gb256, _, none⟩) NB241_256.out _).trans (((cell_far (p := ⟨gb256, _, none⟩) NB241_256.out _).trans (hHeld.2))))⟩ (fun hHeld => ?_)
                  clear hK K
                  refine pure_ (i := 10) (N := some 15) (v := ?_) (a' := ?_) #[true, true, true, true, true, true, true, true, true, true, true] rfl rfl (any_of HT_.out (by kernel_rfl)) (fun _ _ _ h => h) (Or.inl ⟨by rfl, ?_⟩) ?_ ?_
                  rotate_left
                  · intro w'
                    go_simp
                    with_reducible rfl
                  rotate_left
                  · simp only [Act.put, List.setIfInBounds_toArray, List.set_cons_zero, List.set_cons_succ, i64_w, i32_w]
                    rfl
                  refine done_ (done_of HT_.out (by kernel_rfl)) ?_
                  try go_wp2
                  go_ret
                  exact ⟨by first | rfl | (simp [errW_none, errW_some] <;> rfl) | (simp only [← hji12]; first | rfl | (simp [errW_none, errW_some] <;> rfl)) | (simp [*, errW_none, errW_some] <;> rfl), by repeat (first | (with_reducible first | exact HB.out | apply below_alloc | apply pw_below_drewN | apply below_drew1 | refine below_set ?_ GE241.out | refine below_set ?_ GE256.out) | exact HB.out)⟩
                · rw [if_neg c59] at H
                  have c59b0 : decide (59 < x10_12) = false := decide_eq_false c59
                  clear c59
                  by_cases c70 : t255 = true
                  · subst c70
                    have H1 : ((interlocutorref10_Cmp.f kj12 t251 t252 5 (([wrap64 ((Int.tmod (wrap64 (t224 - 1)) 12) + (wrap64 (12 * x11_8))), x10_12, 0] : List Int))).bind fun t260 => (some (t260 == 0))) = some r := by rw [if_pos rfl] at H; exact H
                    clear H
                    have H := H1
                    clear H1
                    obtain ⟨y257, hy257⟩ : ∃ y_ : List Int, y_ = (([wrap64 ((Int.tmod (wrap64 (t224 - 1)) 12) + (wrap64 (12 * x11_8))), x10_12, 0] : List Int)) := ⟨_, rfl⟩
                    replace H : ((interlocutorref10_Cmp.f kj12 t251 t252 5 y257).bind fun t260 => (some (t260 == 0))) = some r := by first | (rw [hy257]; with_reducible exact H) | (have H2_ := (Option.bind_some _ _).symm.trans H; rw [hy257]; with_reducible exact H2_) | (have H2_ := (Option.bind_some _ _).symm.trans H; with_reducible exact H2_) | with_reducible exact H | (rw [hy257]; exact H) | exact H
                    have Ny257 := Aside0.mk hy257
                    clear hy257
                    replace H := Option.bind_eq_some_iff.mp H
                    obtain ⟨t260, A710, H⟩ := H
                    replace H : (some (t260 == 0)) = some r := H
                    have A71 := Aside0.mk A710
                    clear A710
                    obtain rfl := Option.some.inj H
                    obtain ⟨Ao72, co72, eo72⟩ := Kd.R_slice HO_242001.out
                    subst eo72
                    obtain ⟨Ao73, co73, eo73⟩ := Kd.N_slice HO_12.out
                    subst eo73
                    try go_wp2
                    have n0_ := Aside0.mk (Kd.N_drew HO_12.out)
                    have n1_ := Aside0.mk (Kd.R_drew HO_242001.out)
                    have n2_ := Aside0.mk (blk_drew BK241.out)
                    have n3_ := Aside0.mk (below_drew1 HB.out)
                    clear HO_12
                    clear HO_242001
                    clear BK241
                    clear HB
                    have HO_12 := n0_
                    have HO_242001 := n1_
                    have BK241 := n2_
                    have HB := n3_
                    clear n0_ n1_ n2_ n3_
                    refine start_ (n := 11) (S := fun w' => w'.cell? ⟨gb241, 0, none⟩ = some (.int .i64 4) ∧ w'.cell? ⟨gb241, 1, none⟩ = some (.slice Ao72 x242001_12.length co72)) (ds := []) #[false, false, false, false, false, false, false, false, false, false, false] (by kernel_rfl) rfl rfl ⟨(blk_cell BK241.out 0).trans rfl, (blk_cell BK241.out 1).trans rfl⟩ (fun hHeld => ?_); refine with_tabW interlocutorlaw8_ActHalves.tab12 interlocutorlaw8_ActHalves.bits12 (fun HT_ HW_ => ?_)
                    generalize wc.drew = w74 at HO_12 HO_242001 BK241 HB hHeld ⊢
                    refine pure_ (i := 1) (N := some 42) (v := ?_) (a' := ?_) #[false, true, false, false, false, false, false, false, false, false, false] rfl rfl (any_of HT_.out (by kernel_rfl)) (fun _ _ _ h => h) (Or.inl ⟨by rfl, ?_⟩) ?_ ?_
                    rotate_left
                    · intro w'
                      go_simp
                      with_reducible rfl
                    rotate_left
                    · simp only [Act.put, List.setIfInBounds_toArray, List.set_cons_zero, List.set_cons_succ, i64_w, i32_w]
                      rfl
                    refine pure_ (i := 2) (N := some 43) (v := ?_) (a' := ?_) #[false, true, true, false, false, false, false, false, false, false, false] rfl rfl (any_of HT_.out (by kernel_rfl)) (fun _ _ _ h => h) (Or.inl ⟨by rfl, ?_⟩) ?_ ?_
                    rotate_left
                    · intro w'
                      go_simp
                      with_reducible rfl
                    rotate_left
                    · simp only [Act.put, List.setIfInBounds_toArray, List.set_cons_zero, List.set_cons_succ, i64_w, i32_w]
                      rfl
                    refine take_ (i := 0) (N := some 41) (v := ?_) (a' := ?_) #[true, true, true, false, false, false, false, false, false, false, false] rfl rfl (take_ofW HT_.out HW_.out (by kernel_rfl)) (fun _ _ _ h => h) (Or.inl ⟨by rfl, ?_⟩) hHeld ?_ ?_
                    rotate_left
                    · rintro w' ⟨s0, s1⟩
                      go_simp
                      with_reducible rfl
                    rotate_left
                    · simp only [Act.put, List.setIfInBounds_toArray, List.set_cons_zero, List.set_cons_succ, i64_w, i32_w]
                      rfl
                    refine join_ (σ := Value × Nat) 2 #[true, true, true, true, true, true, true, true, true, false, false] (fun s_ => [(44, .agg #[.int .i64 t245, .int .i64 t246, .int .i64 t247, .int .i64 t248, .int .i64 t249, .int .i64 t250]), (45, .tuple #[.agg #[.int .i64 t251, s_.1], .bool true]), (14, .pointer (some ⟨s_.2, 0, none⟩)), (40, .tuple #[.agg #[.int .i64 t251, s_.1], .bool true]), (46, .agg #[.int .i64 t251, s_.1]), (47, .bool true)]) (fun s_ w' => (w'.cell? ⟨gb241, 0, none⟩ = some (.int .i64 4) ∧ w'.cell? ⟨gb241, 1, none⟩ = some (.slice Ao72 x242001_12.length co72)) ∧ (Kd.R (Kd.int .i64) 3 w' w.heap.size (fun k_ => some k_ ≠ (.slice Ao72 x242001_12.length co72 : Value).ownBlock) s_.1 t252) ∧ (Kd.N k27 27 w' w.heap.size (fun k_ => some k_ ≠ (s_.1 : Value).ownBlock ∧ some k_ ≠ (.slice Ao72 x242001_12.length co72 : Value).ownBlock ∧ k_ ≠ gb241 ∧ k_ ≠ s_.2) (.slice Ao73 y235.length co73) y235) ∧ (Kd.R (Kd.int .i64) 3 w' w.heap.size (fun k_ => some k_ ≠ (s_.1 : Value).ownBlock) (.slice Ao72 x242001_12.length co72) x242001_12) ∧ (w'.heap[gb241]? = some (.cells #[.int .i64 4, .slice Ao72 x242001_12.length co72] 30 (0, 0))) ∧ (w'.heap[s_.2]? = some (.cells #[.int .i64 0, .slice none 0 0] 27 (0, 0))) ∧ (w.heap.size ≤ s_.2) ∧ (w.heap.size ≤ s_.2) ∧ (gb241 ≠ s_.2) ∧ (s_.2 ≠ gb241) ∧ (Below w.heap.size w w')) ?_ ?_
                    rotate_left
                    · intro hCont
                      refine two_ (i := 3) (j := 8) (Ni := some 44) (Nj := some 14) #[true, true, true, true, false, false, false, false, false, false, false] #[true, true, true, false, false, false, false, false, true, false, false] rfl rfl rfl rfl (two_of HT_.out (by kernel_rfl)) (by decide) (by decide) (fun K hK => ?_) (fun K hK => ?_)
                      · skip
                        refine goes_ Try.func21 (by kernel_rfl) rfl #[.int .i64 a0] (by rfl) rfl rfl (by (try simp only [List.map_toArray, List.map_cons, List.map_nil]); first | done | rfl | (simp only [List.length_drop, List.length_take]; rfl)) ?_
                        with_reducible refine (interlocutorlaw8_Ref.calls a0 t245 t246 t247 t248 t249 t250 _ A35.out).mono ?_
                        rintro e w75 ⟨rfl, hb⟩
                        refine ⟨_, rfl, ?_⟩
                        have n0_ := Aside0.mk (Kd.N_below (by (with_reducible repeat (first | apply Kd.N_alloc | apply Kd.N_drewN | apply Kd.N_drew)); exact HO_12.out) hb)
                        have n1_ := Aside0.mk (Kd.R_below (by (with_reducible repeat (first | apply Kd.R_alloc | apply Kd.R_drewN | apply Kd.R_drew)); exact HO_242001.out) hb)
                        have n2_ := Aside0.mk (blk_below (g := gb241) (o := .cells #[.int .i64 4, .slice Ao72 x242001_12.length co72] 30 (0, 0)) (by (with_reducible repeat (first | refine blk_drewN ?_ _ | refine blk_drew ?_ | refine blk_alloc ?_ _)); exact BK241.out) hb)
                        have n3_ := Aside0.mk (below_step (by repeat (first | (with_reducible first | exact HB.out | apply below_alloc | apply pw_below_drewN | apply below_drew1 | refine below_set ?_ GE241.out) | exact HB.out)) hb)
                        clear HO_12
                        clear HO_242001
                        clear BK241
                        clear HB
                        have HO_12 := n0_
                        have HO_242001 := n1_
                        have BK241 := n2_
                        have HB := n3_
                        clear n0_ n1_ n2_ n3_
                        (try clear hb)
                        (try clear hb2)
                        (try clear hk)
                        (try clear hi)
                        refine hK.out _ _ ⟨(blk_cell BK241.out 0).trans rfl, (blk_cell BK241.out 1).trans rfl⟩ (fun hHeld => ?_)
                        clear hK K
                        refine norm_ (a' := ?_) ?_ ?_
                        rotate_left
                        · show Act.put _ (some 44) _ = _
                          simp only [Act.put, List.setIfInBounds_toArray, List.set_cons_zero, List.set_cons_succ, i64_w, i32_w]
                          rfl
                        refine two_ (i := 4) (j := 8) (Ni := some 45) (Nj := some 14) #[true, true, true, true, true, false, false, false, false, false, false] #[true, true, true, true, false, false, false, false, true, false, false] rfl rfl rfl rfl (two_of HT_.out (by kernel_rfl)) (by decide) (by decide) (fun K hK => ?_) (fun K hK => ?_)
                        · skip
                          refine goes_ Try.func22 (by kernel_rfl) rfl #[.agg #[.int .i64 4, .slice Ao72 x242001_12.length co72], .slice Ao73 y235.length co73, .agg #[.int .i64 t245, .int .i64 t246, .int .i64 t247, .int .i64 t248, .int .i64 t249, .int .i64 t250]] (by rfl) rfl rfl (by (try simp only [List.map_toArray, List.map_cons, List.map_nil]); first | done | rfl | (simp only [List.length_drop, List.length_take]; rfl)) ?_
                          with_reducible refine (act_Do.calls kj12 4 _ _ x242001_12 _ _ y235 t245 t246 t247 t248 t249 t250 t251 t252 true _ ?side1 ?side2 ?side3 ?side4 A36.out).mono ?_
                          (case side1 => repeat (first | exact (Kd.R_reads' HO_242001.out).2.2 | (with_reducible refine Kd.C_alloc ?_ _) | (with_reducible refine Kd.C_drewN ?_ _) | (with_reducible refine Kd.C_drew ?_)))
                          (case side2 => exact (Kd.R_reads' HO_242001.out).2.1)
                          (case side3 => repeat (first | exact (Kd.N_reads' HO_12.out).2.2 | (with_reducible refine Kd.C_alloc ?_ _) | (with_reducible refine Kd.C_drewN ?_ _) | (with_reducible refine Kd.C_drew ?_)))
                          (case side4 => exact (Kd.N_reads' HO_12.out).2.1)
                          rintro e w76 ⟨v253, rfl, ho0, hb⟩
                          refine ⟨_, rfl, ?_⟩
                          have n0_ := Aside0.mk (Kd.N_elder' (by (with_reducible repeat (first | apply Kd.N_alloc | apply Kd.N_drewN | apply Kd.N_drew)); exact HO_12.out) (Kd.R_base ho0) hb)
                          have n1_ := Aside0.mk (Kd.R_elder' (by (with_reducible repeat (first | apply Kd.R_alloc | apply Kd.R_drewN | apply Kd.R_drew)); exact HO_242001.out) (Kd.R_base ho0) hb)
                          have n2_ := Aside0.mk (Kd.R_lower (Kd.R_new' ho0 (Kd.R_lt (by (with_reducible repeat (first | apply Kd.R_alloc | apply Kd.R_drewN | apply Kd.R_drew)); exact HO_242001.out))) (below_size (by repeat (first | (with_reducible first | exact HB.out | apply below_alloc | apply pw_below_drewN | apply below_drew1 | refine below_set ?_ GE241.out) | exact HB.out))))
                          have n3_ := Aside0.mk (blk_below (g := gb241) (o := .cells #[.int .i64 4, .slice Ao72 x242001_12.length co72] 30 (0, 0)) (by (with_reducible repeat (first | refine blk_drewN ?_ _ | refine blk_drew ?_ | refine blk_alloc ?_ _)); exact BK241.out) hb)
                          have n4_ := Aside0.mk (below_step (by repeat (first | (with_reducible first | exact HB.out | apply below_alloc | apply pw_below_drewN | apply below_drew1 | refine below_set ?_ GE241.out) | exact HB.out)) hb)
                          clear HO_12
                          clear HO_242001
                          clear BK241
                          clear HB
                          have HO_12 := n0_
                          have HO_242001 := n1_
                          have HO254 := n2_
                          have BK241 := n3_
                          have HB := n4_
                          clear n0_ n1_ n2_ n3_ n4_
                          (try clear hb)
                          (try clear hb2)
                          (try clear hk)
                          (try clear hi)
                          (try clear ho0)
                          refine hK.out _ _ ⟨(blk_cell BK241.out 0).trans rfl, (blk_cell BK241.out 1).trans rfl⟩ (fun hHeld => ?_)
                          clear hK K
                          refine norm_ (a' := ?_) ?_ ?_
                          rotate_left
                          · show Act.put _ (some 45) _ = _
                            simp only [Act.put, List.setIfInBounds_toArray, List.set_cons_zero, List.set_cons_succ, i64_w, i32_w]
                            rfl
                          refine pure_ (i := 5) (N := some 40) (v := ?_) (a' := ?_) #[true, true, true, true, true, true, false, false, false, false, false] rfl rfl (any_of HT_.out (by kernel_rfl)) (fun _ _ _ h => h) (Or.inl ⟨by rfl, ?_⟩) ?_ ?_
                          rotate_left
                          · intro w'
                            go_simp
                            with_reducible rfl
                          rotate_left
                          · simp only [Act.put, List.setIfInBounds_toArray, List.set_cons_zero, List.set_cons_succ, i64_w, i32_w]
                            rfl
                          refine pure_ (i := 6) (N := some 46) (v := ?_) (a' := ?_) #[true, true, true, true, true, true, true, false, false, false, false] rfl rfl (any_of HT_.out (by kernel_rfl)) (fun _ _ _ h => h) (Or.inl ⟨by rfl, ?_⟩) ?_ ?_
                          rotate_left
                          · intro w'
                            go_simp
                            with_reducible rfl
                          rotate_left
                          · simp only [Act.put, List.setIfInBounds_toArray, List.set_cons_zero, List.set_cons_succ, i64_w, i32_w]
                            rfl
                          refine pure_ (i := 7) (N := some 47) (v := ?_) (a' := ?_) #[true, true, true, true, true, true, true, true, false, false, false] rfl rfl (any_of HT_.out (by kernel_rfl)) (fun _ _ _ h => h) (Or.inl ⟨by rfl, ?_⟩) ?_ ?_
                          rotate_left
                          · intro w'
                            go_simp
                            with_reducible rfl
                          rotate_left
                          · simp only [Act.put, List.setIfInBounds_toArray, List.set_cons_zero, List.set_cons_succ, i64_w, i32_w]
                            rfl
                          refine one_ (i := 8) (N := some 14) #[true, true, true, true, true, true, true, true, true, false, false] rfl rfl (one_of HT_.out (by kernel_rfl)) (by decide) (fun K hK => ?_)
                          refine box_step ?hg (N := 14) ?hd (cs := #[.int .i64 0, .slice none 0 0]) (t := 27) ?hr ?_; (case hd => rfl); (case hg => rfl); (case hr => first | (go_simp; done) | (go_simp; rfl))
                          intro gb256 hg w77 hbox hb
                          have n0_ := Aside0.mk (Kd.N_below (Kd.N_elderB (by (with_reducible repeat (first | apply Kd.N_alloc | apply Kd.N_drewN | apply Kd.N_drew)); exact HO_12.out) gb256 (Nat.le_of_eq hg.symm)) hb)
                          have n1_ := Aside0.mk (Kd.R_below (by (with_reducible repeat (first | apply Kd.R_alloc | apply Kd.R_drewN | apply Kd.R_drew)); exact HO_242001.out) hb)
                          have n2_ := Aside0.mk (Kd.R_below (by (with_reducible repeat (first | apply Kd.R_alloc | apply Kd.R_drewN | apply Kd.R_drew)); exact HO254.out) hb)
                          have n3_ := Aside0.mk (blk_below (g := gb241) (o := .cells #[.int .i64 4, .slice Ao72 x242001_12.length co72] 30 (0, 0)) (by (with_reducible repeat (first | refine blk_drewN ?_ _ | refine blk_drew ?_ | refine blk_alloc ?_ _)); exact BK241.out) hb)
                          have n4_ := Aside0.mk (below_step (by repeat (first | (with_reducible first | exact HB.out | apply below_alloc | apply pw_below_drewN | apply below_drew1 | refine below_set ?_ GE241.out) | exact HB.out)) hb)
                          have n5_ := Aside0.mk (hbox)
                          have n6_ := Aside0.mk ((by rw [hg]; exact (below_size (by repeat (first | (with_reducible first | exact HB.out | apply below_alloc | apply pw_below_drewN | apply below_drew1 | refine below_set ?_ GE241.out) | exact HB.out))) : w.heap.size ≤ gb256))
                          have n7_ := Aside0.mk ((by rw [hg]; exact (below_size (by repeat (first | (with_reducible first | exact HB.out | apply below_alloc | apply pw_below_drewN | apply below_drew1 | refine below_set ?_ GE241.out) | exact HB.out))) : w.heap.size ≤ gb256))
                          have n8_ := Aside0.mk ((by rw [hg]; exact Nat.ne_of_lt (blk_lt (g := gb241) (o := .cells #[.int .i64 4, .slice Ao72 x242001_12.length co72] 30 (0, 0)) (by (with_reducible repeat (first | refine blk_drewN ?_ _ | refine blk_drew ?_ | refine blk_alloc ?_ _)); exact BK241.out)) : gb241 ≠ gb256))
                          have n9_ := Aside0.mk ((by rw [hg]; exact Nat.ne_of_gt (blk_lt (g := gb241) (o := .cells #[.int .i64 4, .slice Ao72 x242001_12.length co72] 30 (0, 0)) (by (with_reducible repeat (first | refine blk_drewN ?_ _ | refine blk_drew ?_ | refine blk_alloc ?_ _)); exact BK241.out)) : gb256 ≠ gb241))
                          clear HO_12
                          clear HO_242001
                          clear HO254
                          clear BK241
                          clear HB
                          have HO_12 := n0_
                          have HO_242001 := n1_
                          have HO254 := n2_
                          have BK241 := n3_
                          have HB := n4_
                          have BK256 := n5_
                          have GW256 := n6_
                          have GE256 := n7_
                          have NB241_256 := n8_
                          have NB256_241 := n9_
                          clear n0_ n1_ n2_ n3_ n4_ n5_ n6_ n7_ n8_ n9_
                          clear hb hbox hg
                          refine hK.out _ _ ⟨(blk_cell BK241.out 0).trans rfl, (blk_cell BK241.out 1).trans rfl⟩ (fun hHeld => ?_)
                          clear hK K
                          refine norm_ (a' := ?_) ?_ ?_
                          rotate_left
                          · show Act.put _ (some 14) _ = _
                            simp only [Act.put, List.setIfInBounds_toArray, List.set_cons_zero, List.set_cons_succ, i64_w, i32_w]
                            rfl
                          exact norm_ (by simp only [putAll, Act.put, List.setIfInBounds_toArray, List.set_cons_zero, List.set_cons_succ]) (hCont (v253, gb256) _ ⟨hHeld, (by (with_reducible repeat (first | apply Kd.R_alloc | apply Kd.R_drewN | apply Kd.R_drew)); exact Kd.R_mono HO254.out (fun _ hk => hk.2)), (by (with_reducible repeat (first | apply Kd.N_alloc | apply Kd.N_drewN | apply Kd.N_drew)); exact Kd.N_mono HO_12.out (fun _ hk => ⟨hk.1.2, ⟨hk.1.1.1, ⟨hk.1.1.2, hk.2⟩⟩⟩)), (by (with_reducible repeat (first | apply Kd.R_alloc | apply Kd.R_drewN | apply Kd.R_drew)); exact Kd.R_mono HO_242001.out (fun _ hk => hk.2)), (by (with_reducible repeat (first | refine blk_drewN ?_ _ | refine blk_drew ?_ | refine blk_alloc ?_ _)); exact BK241.out), (by (with_reducible repeat (first | refine blk_drewN ?_ _ | refine blk_drew ?_ | refine blk_alloc ?_ _)); exact BK256.out), GW256.out, GE256.out, NB241_256.out, NB256_241.out, (by repeat (first | (with_reducible first | exact HB.out | apply below_alloc | apply pw_below_drewN | apply below_drew1 | refine below_set ?_ GE241.out | refine below_set ?_ GE256.out) | exact HB.out))⟩)
                        · skip
                          refine box_step ?hg (N := 14) ?hd (cs := #[.int .i64 0, .slice none 0 0]) (t := 27) ?hr ?_; (case hd => rfl); (case hg => rfl); (case hr => first | (go_simp; done) | (go_simp; rfl))
                          intro gb256 hg w76 hbox hb
                          have n0_ := Aside0.mk (Kd.N_below (Kd.N_elderB (by (with_reducible repeat (first | apply Kd.N_alloc | apply Kd.N_drewN | apply Kd.N_drew)); exact HO_12.out) gb256 (Nat.le_of_eq hg.symm)) hb)
                          have n1_ := Aside0.mk (Kd.R_below (by (with_reducible repeat (first | apply Kd.R_alloc | apply Kd.R_drewN | apply Kd.R_drew)); exact HO_242001.out) hb)
                          have n2_ := Aside0.mk (blk_below (g := gb241) (o := .cells #[.int .i64 4, .slice Ao72 x242001_12.length co72] 30 (0, 0)) (by (with_reducible repeat (first | refine blk_drewN ?_ _ | refine blk_drew ?_ | refine blk_alloc ?_ _)); exact BK241.out) hb)
                          have n3_ := Aside0.mk (below_step (by repeat (first | (with_reducible first | exact HB.out | apply below_alloc | apply pw_below_drewN | apply below_drew1 | refine below_set ?_ GE241.out) | exact HB.out)) hb)
                          have n4_ := Aside0.mk (hbox)
                          have n5_ := Aside0.mk ((by rw [hg]; exact (below_size (by repeat (first | (with_reducible first | exact HB.out | apply below_alloc | apply pw_below_drewN | apply below_drew1 | refine below_set ?_ GE241.out) | exact HB.out))) : w.heap.size ≤ gb256))
                          have n6_ := Aside0.mk ((by rw [hg]; exact (below_size (by repeat (first | (with_reducible first | exact HB.out | apply below_alloc | apply pw_below_drewN | apply below_drew1 | refine below_set ?_ GE241.out) | exact HB.out))) : w.heap.size ≤ gb256))
                          have n7_ := Aside0.mk ((by rw [hg]; exact Nat.ne_of_lt (blk_lt (g := gb241) (o := .cells #[.int .i64 4, .slice Ao72 x242001_12.length co72] 30 (0, 0)) (by (with_reducible repeat (first | refine blk_drewN ?_ _ | refine blk_drew ?_ | refine blk_alloc ?_ _)); exact BK241.out)) : gb241 ≠ gb256))
                          have n8_ := Aside0.mk ((by rw [hg]; exact Nat.ne_of_gt (blk_lt (g := gb241) (o := .cells #[.int .i64 4, .slice Ao72 x242001_12.length co72] 30 (0, 0)) (by (with_reducible repeat (first | refine blk_drewN ?_ _ | refine blk_drew ?_ | refine blk_alloc ?_ _)); exact BK241.out)) : gb256 ≠ gb241))
                          clear HO_12
                          clear HO_242001
                          clear BK241
                          clear HB
                          have HO_12 := n0_
                          have HO_242001 := n1_
                          have BK241 := n2_
                          have HB := n3_
                          have BK256 := n4_
                          have GW256 := n5_
                          have GE256 := n6_
                          have NB241_256 := n7_
                          have NB256_241 := n8_
                          clear n0_ n1_ n2_ n3_ n4_ n5_ n6_ n7_ n8_
                          clear hb hbox hg
                          refine hK.out _ _ ⟨(blk_cell BK241.out 0).trans rfl, (blk_cell BK241.out 1).trans rfl⟩ (fun hHeld => ?_)
                          clear hK K
                          refine norm_ (a' := ?_) ?_ ?_
                          rotate_left
                          · show Act.put _ (some 14) _ = _
                            simp only [Act.put, List.setIfInBounds_toArray, List.set_cons_zero, List.set_cons_succ, i64_w, i32_w]
                            rfl
                          refine one_ (i := 4) (N := some 45) #[true, true, true, true, true, false, false, false, true, false, false] rfl rfl (one_of HT_.out (by kernel_rfl)) (by decide) (fun K hK => ?_)
                          refine goes_ Try.func22 (by kernel_rfl) rfl #[.agg #[.int .i64 4, .slice Ao72 x242001_12.length co72], .slice Ao73 y235.length co73, .agg #[.int .i64 t245, .int .i64 t246, .int .i64 t247, .int .i64 t248, .int .i64 t249, .int .i64 t250]] (by rfl) rfl rfl (by (try simp only [List.map_toArray, List.map_cons, List.map_nil]); first | done | rfl | (simp only [List.length_drop, List.length_take]; rfl)) ?_
                          with_reducible refine (act_Do.calls kj12 4 _ _ x242001_12 _ _ y235 t245 t246 t247 t248 t249 t250 t251 t252 true _ ?side1 ?side2 ?side3 ?side4 A36.out).mono ?_
                          (case side1 => repeat (first | exact (Kd.R_reads' HO_242001.out).2.2 | (with_reducible refine Kd.C_alloc ?_ _) | (with_reducible refine Kd.C_drewN ?_ _) | (with_reducible refine Kd.C_drew ?_)))
                          (case side2 => exact (Kd.R_reads' HO_242001.out).2.1)
                          (case side3 => repeat (first | exact (Kd.N_reads' HO_12.out).2.2 | (with_reducible refine Kd.C_alloc ?_ _) | (with_reducible refine Kd.C_drewN ?_ _) | (with_reducible refine Kd.C_drew ?_)))
                          (case side4 => exact (Kd.N_reads' HO_12.out).2.1)
                          rintro e w77 ⟨v253, rfl, ho0, hb⟩
                          refine ⟨_, rfl, ?_⟩
                          have n0_ := Aside0.mk (Kd.N_elder' (by (with_reducible repeat (first | apply Kd.N_alloc | apply Kd.N_drewN | apply Kd.N_drew)); exact HO_12.out) (Kd.R_base ho0) hb)
                          have n1_ := Aside0.mk (Kd.R_elder' (by (with_reducible repeat (first | apply Kd.R_alloc | apply Kd.R_drewN | apply Kd.R_drew)); exact HO_242001.out) (Kd.R_base ho0) hb)
                          have n2_ := Aside0.mk (Kd.R_lower (Kd.R_new' ho0 (Kd.R_lt (by (with_reducible repeat (first | apply Kd.R_alloc | apply Kd.R_drewN | apply Kd.R_drew)); exact HO_242001.out))) (below_size (by repeat (first | (with_reducible first | exact HB.out | apply below_alloc | apply pw_below_drewN | apply below_drew1 | refine below_set ?_ GE241.out | refine below_set ?_ GE256.out) | exact HB.out))))
                          have n3_ := Aside0.mk (blk_below (g := gb241) (o := .cells #[.int .i64 4, .slice Ao72 x242001_12.length co72] 30 (0, 0)) (by (with_reducible repeat (first | refine blk_drewN ?_ _ | refine blk_drew ?_ | refine blk_alloc ?_ _)); exact BK241.out) hb)
                          have n4_ := Aside0.mk (blk_below (g := gb256) (o := .cells #[.int .i64 0, .slice none 0 0] 27 (0, 0)) (by (with_reducible repeat (first | refine blk_drewN ?_ _ | refine blk_drew ?_ | refine blk_alloc ?_ _)); exact BK256.out) hb)
                          have n5_ := Aside0.mk (below_step (by repeat (first | (with_reducible first | exact HB.out | apply below_alloc | apply pw_below_drewN | apply below_drew1 | refine below_set ?_ GE241.out | refine below_set ?_ GE256.out) | exact HB.out)) hb)
                          clear HO_12
                          clear HO_242001
                          clear BK241
                          clear BK256
                          clear HB
                          have HO_12 := n0_
                          have HO_242001 := n1_
                          have HO254 := n2_
                          have BK241 := n3_
                          have BK256 := n4_
                          have HB := n5_
                          clear n0_ n1_ n2_ n3_ n4_ n5_
                          (try clear hb)
                          (try clear hb2)
                          (try clear hk)
                          (try clear hi)
                          (try clear ho0)
                          refine hK.out _ _ ⟨(blk_cell BK241.out 0).trans rfl, (blk_cell BK241.out 1).trans rfl⟩ (fun hHeld => ?_)
                          clear hK K
                          refine norm_ (a' := ?_) ?_ ?_
                          rotate_left
                          · show Act.put _ (some 45) _ = _
                            simp only [Act.put, List.setIfInBounds_toArray, List.set_cons_zero, List.set_cons_succ, i64_w, i32_w]
                            rfl
                          refine pure_ (i := 5) (N := some 40) (v := ?_) (a' := ?_) #[true, true, true, true, true, true, false, false, true, false, false] rfl rfl (any_of HT_.out (by kernel_rfl)) (fun _ _ _ h => h) (Or.inl ⟨by rfl, ?_⟩) ?_ ?_
                          rotate_left
                          · intro w'
                            go_simp
                            with_reducible rfl
                          rotate_left
                          · simp only [Act.put, List.setIfInBounds_toArray, List.set_cons_zero, List.set_cons_succ, i64_w, i32_w]
                            rfl
                          refine pure_ (i := 6) (N := some 46) (v := ?_) (a' := ?_) #[true, true, true, true, true, true, true, false, true, false, false] rfl rfl (any_of HT_.out (by kernel_rfl)) (fun _ _ _ h => h) (Or.inl ⟨by rfl, ?_⟩) ?_ ?_
                          rotate_left
                          · intro w'
                            go_simp
                            with_reducible rfl
                          rotate_left
                          · simp only [Act.put, List.setIfInBounds_toArray, List.set_cons_zero, List.set_cons_succ, i64_w, i32_w]
                            rfl
                          refine pure_ (i := 7) (N := some 47) (v := ?_) (a' := ?_) #[true, true, true, true, true, true, true, true, true, false, false] rfl rfl (any_of HT_.out (by kernel_rfl)) (fun _ _ _ h => h) (Or.inl ⟨by rfl, ?_⟩) ?_ ?_
                          rotate_left
                          · intro w'
                            go_simp
                            with_reducible rfl
                          rotate_left
                          · simp only [Act.put, List.setIfInBounds_toArray, List.set_cons_zero, List.set_cons_succ, i64_w, i32_w]
                            rfl
                          exact norm_ (by simp only [putAll, Act.put, List.setIfInBounds_toArray, List.set_cons_zero, List.set_cons_succ]) (hCont (v253, gb256) _ ⟨hHeld, (by (with_reducible repeat (first | apply Kd.R_alloc | apply Kd.R_drewN | apply Kd.R_drew)); exact Kd.R_mono HO254.out (fun _ hk => hk.2)), (by (with_reducible repeat (first | apply Kd.N_alloc | apply Kd.N_drewN | apply Kd.N_drew)); exact Kd.N_mono HO_12.out (fun _ hk => ⟨hk.2, ⟨hk.1.1.1, ⟨hk.1.1.2, hk.1.2⟩⟩⟩)), (by (with_reducible repeat (first | apply Kd.R_alloc | apply Kd.R_drewN | apply Kd.R_drew)); exact Kd.R_mono HO_242001.out (fun _ hk => hk.2)), (by (with_reducible repeat (first | refine blk_drewN ?_ _ | refine blk_drew ?_ | refine blk_alloc ?_ _)); exact BK241.out), (by (with_reducible repeat (first | refine blk_drewN ?_ _ | refine blk_drew ?_ | refine blk_alloc ?_ _)); exact BK256.out), GW256.out, GE256.out, NB241_256.out, NB256_241.out, (by repeat (first | (with_reducible first | exact HB.out | apply below_alloc | apply pw_below_drewN | apply below_drew1 | refine below_set ?_ GE241.out | refine below_set ?_ GE256.out) | exact HB.out))⟩)
                      · skip
                        refine box_step ?hg (N := 14) ?hd (cs := #[.int .i64 0, .slice none 0 0]) (t := 27) ?hr ?_; (case hd => rfl); (case hg => rfl); (case hr => first | (go_simp; done) | (go_simp; rfl))
                        intro gb256 hg w75 hbox hb
                        have n0_ := Aside0.mk (Kd.N_below (Kd.N_elderB (by (with_reducible repeat (first | apply Kd.N_alloc | apply Kd.N_drewN | apply Kd.N_drew)); exact HO_12.out) gb256 (Nat.le_of_eq hg.symm)) hb)
                        have n1_ := Aside0.mk (Kd.R_below (by (with_reducible repeat (first | apply Kd.R_alloc | apply Kd.R_drewN | apply Kd.R_drew)); exact HO_242001.out) hb)
                        have n2_ := Aside0.mk (blk_below (g := gb241) (o := .cells #[.int .i64 4, .slice Ao72 x242001_12.length co72] 30 (0, 0)) (by (with_reducible repeat (first | refine blk_drewN ?_ _ | refine blk_drew ?_ | refine blk_alloc ?_ _)); exact BK241.out) hb)
                        have n3_ := Aside0.mk (below_step (by repeat (first | (with_reducible first | exact HB.out | apply below_alloc | apply pw_below_drewN | apply below_drew1 | refine below_set ?_ GE241.out) | exact HB.out)) hb)
                        have n4_ := Aside0.mk (hbox)
                        have n5_ := Aside0.mk ((by rw [hg]; exact (below_size (by repeat (first | (with_reducible first | exact HB.out | apply below_alloc | apply pw_below_drewN | apply below_drew1 | refine below_set ?_ GE241.out) | exact HB.out))) : w.heap.size ≤ gb256))
                        have n6_ := Aside0.mk ((by rw [hg]; exact (below_size (by repeat (first | (with_reducible first | exact HB.out | apply below_alloc | apply pw_below_drewN | apply below_drew1 | refine below_set ?_ GE241.out) | exact HB.out))) : w.heap.size ≤ gb256))
                        have n7_ := Aside0.mk ((by rw [hg]; exact Nat.ne_of_lt (blk_lt (g := gb241) (o := .cells #[.int .i64 4, .slice Ao72 x242001_12.length co72] 30 (0, 0)) (by (with_reducible repeat (first | refine blk_drewN ?_ _ | refine blk_drew ?_ | refine blk_alloc ?_ _)); exact BK241.out)) : gb241 ≠ gb256))
                        have n8_ := Aside0.mk ((by rw [hg]; exact Nat.ne_of_gt (blk_lt (g := gb241) (o := .cells #[.int .i64 4, .slice Ao72 x242001_12.length co72] 30 (0, 0)) (by (with_reducible repeat (first | refine blk_drewN ?_ _ | refine blk_drew ?_ | refine blk_alloc ?_ _)); exact BK241.out)) : gb256 ≠ gb241))
                        clear HO_12
                        clear HO_242001
                        clear BK241
                        clear HB
                        have HO_12 := n0_
                        have HO_242001 := n1_
                        have BK241 := n2_
                        have HB := n3_
                        have BK256 := n4_
                        have GW256 := n5_
                        have GE256 := n6_
                        have NB241_256 := n7_
                        have NB256_241 := n8_
                        clear n0_ n1_ n2_ n3_ n4_ n5_ n6_ n7_ n8_
                        clear hb hbox hg
                        refine hK.out _ _ ⟨(blk_cell BK241.out 0).trans rfl, (blk_cell BK241.out 1).trans rfl⟩ (fun hHeld => ?_)
                        clear hK K
                        refine norm_ (a' := ?_) ?_ ?_
                        rotate_left
                        · show Act.put _ (some 14) _ = _
                          simp only [Act.put, List.setIfInBounds_toArray, List.set_cons_zero, List.set_cons_succ, i64_w, i32_w]
                          rfl
                        refine one_ (i := 3) (N := some 44) #[true, true, true, true, false, false, false, false, true, false, false] rfl rfl (one_of HT_.out (by kernel_rfl)) (by decide) (fun K hK => ?_)
                        refine goes_ Try.func21 (by kernel_rfl) rfl #[.int .i64 a0] (by rfl) rfl rfl (by (try simp only [List.map_toArray, List.map_cons, List.map_nil]); first | done | rfl | (simp only [List.length_drop, List.length_take]; rfl)) ?_
                        with_reducible refine (interlocutorlaw8_Ref.calls a0 t245 t246 t247 t248 t249 t250 _ A35.out).mono ?_
                        rintro e w76 ⟨rfl, hb⟩
                        refine ⟨_, rfl, ?_⟩
                        have n0_ := Aside0.mk (Kd.N_below (by (with_reducible repeat (first | apply Kd.N_alloc | apply Kd.N_drewN | apply Kd.N_drew)); exact HO_12.out) hb)
                        have n1_ := Aside0.mk (Kd.R_below (by (with_reducible repeat (first | apply Kd.R_alloc | apply Kd.R_drewN | apply Kd.R_drew)); exact HO_242001.out) hb)
                        have n2_ := Aside0.mk (blk_below (g := gb241) (o := .cells #[.int .i64 4, .slice Ao72 x242001_12.length co72] 30 (0, 0)) (by (with_reducible repeat (first | refine blk_drewN ?_ _ | refine blk_drew ?_ | refine blk_alloc ?_ _)); exact BK241.out) hb)
                        have n3_ := Aside0.mk (blk_below (g := gb256) (o := .cells #[.int .i64 0, .slice none 0 0] 27 (0, 0)) (by (with_reducible repeat (first | refine blk_drewN ?_ _ | refine blk_drew ?_ | refine blk_alloc ?_ _)); exact BK256.out) hb)
                        have n4_ := Aside0.mk (below_step (by repeat (first | (with_reducible first | exact HB.out | apply below_alloc | apply pw_below_drewN | apply below_drew1 | refine below_set ?_ GE241.out | refine below_set ?_ GE256.out) | exact HB.out)) hb)
                        clear HO_12
                        clear HO_242001
                        clear BK241
                        clear BK256
                        clear HB
                        have HO_12 := n0_
                        have HO_242001 := n1_
                        have BK241 := n2_
                        have BK256 := n3_
                        have HB := n4_
                        clear n0_ n1_ n2_ n3_ n4_
                        (try clear hb)
                        (try clear hb2)
                        (try clear hk)
                        (try clear hi)
                        refine hK.out _ _ ⟨(blk_cell BK241.out 0).trans rfl, (blk_cell BK241.out 1).trans rfl⟩ (fun hHeld => ?_)
                        clear hK K
                        refine norm_ (a' := ?_) ?_ ?_
                        rotate_left
                        · show Act.put _ (some 44) _ = _
                          simp only [Act.put, List.setIfInBounds_toArray, List.set_cons_zero, List.set_cons_succ, i64_w, i32_w]
                          rfl
                        refine one_ (i := 4) (N := some 45) #[true, true, true, true, true, false, false, false, true, false, false] rfl rfl (one_of HT_.out (by kernel_rfl)) (by decide) (fun K hK => ?_)
                        refine goes_ Try.func22 (by kernel_rfl) rfl #[.agg #[.int .i64 4, .slice Ao72 x242001_12.length co72], .slice Ao73 y235.length co73, .agg #[.int .i64 t245, .int .i64 t246, .int .i64 t247, .int .i64 t248, .int .i64 t249, .int .i64 t250]] (by rfl) rfl rfl (by (try simp only [List.map_toArray, List.map_cons, List.map_nil]); first | done | rfl | (simp only [List.length_drop, List.length_take]; rfl)) ?_
                        with_reducible refine (act_Do.calls kj12 4 _ _ x242001_12 _ _ y235 t245 t246 t247 t248 t249 t250 t251 t252 true _ ?side1 ?side2 ?side3 ?side4 A36.out).mono ?_
                        (case side1 => repeat (first | exact (Kd.R_reads' HO_242001.out).2.2 | (with_reducible refine Kd.C_alloc ?_ _) | (with_reducible refine Kd.C_drewN ?_ _) | (with_reducible refine Kd.C_drew ?_)))
                        (case side2 => exact (Kd.R_reads' HO_242001.out).2.1)
                        (case side3 => repeat (first | exact (Kd.N_reads' HO_12.out).2.2 | (with_reducible refine Kd.C_alloc ?_ _) | (with_reducible refine Kd.C_drewN ?_ _) | (with_reducible refine Kd.C_drew ?_)))
                        (case side4 => exact (Kd.N_reads' HO_12.out).2.1)
                        rintro e w77 ⟨v253, rfl, ho0, hb⟩
                        refine ⟨_, rfl, ?_⟩
                        have n0_ := Aside0.mk (Kd.N_elder' (by (with_reducible repeat (first | apply Kd.N_alloc | apply Kd.N_drewN | apply Kd.N_drew)); exact HO_12.out) (Kd.R_base ho0) hb)
                        have n1_ := Aside0.mk (Kd.R_elder' (by (with_reducible repeat (first | apply Kd.R_alloc | apply Kd.R_drewN | apply Kd.R_drew)); exact HO_242001.out) (Kd.R_base ho0) hb)
                        have n2_ := Aside0.mk (Kd.R_lower (Kd.R_new' ho0 (Kd.R_lt (by (with_reducible repeat (first | apply Kd.R_alloc | apply Kd.R_drewN | apply Kd.R_drew)); exact HO_242001.out))) (below_size (by repeat (first | (with_reducible first | exact HB.out | apply below_alloc | apply pw_below_drewN | apply below_drew1 | refine below_set ?_ GE241.out | refine below_set ?_ GE256.out) | exact HB.out))))
                        have n3_ := Aside0.mk (blk_below (g := gb241) (o := .cells #[.int .i64 4, .slice Ao72 x242001_12.length co72] 30 (0, 0)) (by (with_reducible repeat (first | refine blk_drewN ?_ _ | refine blk_drew ?_ | refine blk_alloc ?_ _)); exact BK241.out) hb)
                        have n4_ := Aside0.mk (blk_below (g := gb256) (o := .cells #[.int .i64 0, .slice none 0 0] 27 (0, 0)) (by (with_reducible repeat (first | refine blk_drewN ?_ _ | refine blk_drew ?_ | refine blk_alloc ?_ _)); exact BK256.out) hb)
                        have n5_ := Aside0.mk (below_step (by repeat (first | (with_reducible first | exact HB.out | apply below_alloc | apply pw_below_drewN | apply below_drew1 | refine below_set ?_ GE241.out | refine below_set ?_ GE256.out) | exact HB.out)) hb)
                        clear HO_12
                        clear HO_242001
                        clear BK241
                        clear BK256
                        clear HB
                        have HO_12 := n0_
                        have HO_242001 := n1_
                        have HO254 := n2_
                        have BK241 := n3_
                        have BK256 := n4_
                        have HB := n5_
                        clear n0_ n1_ n2_ n3_ n4_ n5_
                        (try clear hb)
                        (try clear hb2)
                        (try clear hk)
                        (try clear hi)
                        (try clear ho0)
                        refine hK.out _ _ ⟨(blk_cell BK241.out 0).trans rfl, (blk_cell BK241.out 1).trans rfl⟩ (fun hHeld => ?_)
                        clear hK K
                        refine norm_ (a' := ?_) ?_ ?_
                        rotate_left
                        · show Act.put _ (some 45) _ = _
                          simp only [Act.put, List.setIfInBounds_toArray, List.set_cons_zero, List.set_cons_succ, i64_w, i32_w]
                          rfl
                        refine pure_ (i := 5) (N := some 40) (v := ?_) (a' := ?_) #[true, true, true, true, true, true, false, false, true, false, false] rfl rfl (any_of HT_.out (by kernel_rfl)) (fun _ _ _ h => h) (Or.inl ⟨by rfl, ?_⟩) ?_ ?_
                        rotate_left
                        · intro w'
                          go_simp
                          with_reducible rfl
                        rotate_left
                        · simp only [Act.put, List.setIfInBounds_toArray, List.set_cons_zero, List.set_cons_succ, i64_w, i32_w]
                          rfl
                        refine pure_ (i := 6) (N := some 46) (v := ?_) (a' := ?_) #[true, true, true, true, true, true, true, false, true, false, false] rfl rfl (any_of HT_.out (by kernel_rfl)) (fun _ _ _ h => h) (Or.inl ⟨by rfl, ?_⟩) ?_ ?_
                        rotate_left
                        · intro w'
                          go_simp
                          with_reducible rfl
                        rotate_left
                        · simp only [Act.put, List.setIfInBounds_toArray, List.set_cons_zero, List.set_cons_succ, i64_w, i32_w]
                          rfl
                        refine pure_ (i := 7) (N := some 47) (v := ?_) (a' := ?_) #[true, true, true, true, true, true, true, true, true, false, false] rfl rfl (any_of HT_.out (by kernel_rfl)) (fun _ _ _ h => h) (Or.inl ⟨by rfl, ?_⟩) ?_ ?_
                        rotate_left
                        · intro w'
                          go_simp
                          with_reducible rfl
                        rotate_left
                        · simp only [Act.put, List.setIfInBounds_toArray, List.set_cons_zero, List.set_cons_succ, i64_w, i32_w]
                          rfl
                        exact norm_ (by simp only [putAll, Act.put, List.setIfInBounds_toArray, List.set_cons_zero, List.set_cons_succ]) (hCont (v253, gb256) _ ⟨hHeld, (by (with_reducible repeat (first | apply Kd.R_alloc | apply Kd.R_drewN | apply Kd.R_drew)); exact Kd.R_mono HO254.out (fun _ hk => hk.2)), (by (with_reducible repeat (first | apply Kd.N_alloc | apply Kd.N_drewN | apply Kd.N_drew)); exact Kd.N_mono HO_12.out (fun _ hk => ⟨hk.2, ⟨hk.1.1.1, ⟨hk.1.1.2, hk.1.2⟩⟩⟩)), (by (with_reducible repeat (first | apply Kd.R_alloc | apply Kd.R_drewN | apply Kd.R_drew)); exact Kd.R_mono HO_242001.out (fun _ hk => hk.2)), (by (with_reducible repeat (first | refine blk_drewN ?_ _ | refine blk_drew ?_ | refine blk_alloc ?_ _)); exact BK241.out), (by (with_reducible repeat (first | refine blk_drewN ?_ _ | refine blk_drew ?_ | refine blk_alloc ?_ _)); exact BK256.out), GW256.out, GE256.out, NB241_256.out, NB256_241.out, (by repeat (first | (with_reducible first | exact HB.out | apply below_alloc | apply pw_below_drewN | apply below_drew1 | refine below_set ?_ GE241.out | refine below_set ?_ GE256.out) | exact HB.out))⟩)
                    rintro ⟨v253, gb256⟩ w78 ⟨hS_, h0_, h1_, h2_, h3_, h4_, h5_, h6_, h7_, h8_, h9_⟩
                    have n0_ : Aside0 (Kd.R (Kd.int .i64) 3 w78 w.heap.size (fun k_ => some k_ ≠ (.slice Ao72 x242001_12.length co72 : Value).ownBlock) v253 t252) := ⟨h0_⟩
                    have n1_ : Aside0 (Kd.N k27 27 w78 w.heap.size (fun k_ => some k_ ≠ (v253 : Value).ownBlock ∧ some k_ ≠ (.slice Ao72 x242001_12.length co72 : Value).ownBlock ∧ k_ ≠ gb241 ∧ k_ ≠ gb256) (.slice Ao73 y235.length co73) y235) := ⟨h1_⟩
                    have n2_ : Aside0 (Kd.R (Kd.int .i64) 3 w78 w.heap.size (fun k_ => some k_ ≠ (v253 : Value).ownBlock) (.slice Ao72 x242001_12.length co72) x242001_12) := ⟨h2_⟩
                    have n3_ : Aside0 (w78.heap[gb241]? = some (.cells #[.int .i64 4, .slice Ao72 x242001_12.length co72] 30 (0, 0))) := ⟨h3_⟩
                    have n4_ : Aside0 (w78.heap[gb256]? = some (.cells #[.int .i64 0, .slice none 0 0] 27 (0, 0))) := ⟨h4_⟩
                    have n5_ : Aside0 (w.heap.size ≤ gb256) := ⟨h5_⟩
                    have n6_ : Aside0 (w.heap.size ≤ gb256) := ⟨h6_⟩
                    have n7_ : Aside0 (gb241 ≠ gb256) := ⟨h7_⟩
                    have n8_ : Aside0 (gb256 ≠ gb241) := ⟨h8_⟩
                    have n9_ : Aside0 (Below w.heap.size w w78) := ⟨h9_⟩
                    clear HO_12
                    clear HO_242001
                    clear BK241
                    clear HB
                    clear h0_ h1_ h2_ h3_ h4_ h5_ h6_ h7_ h8_ h9_
                    have HO254 := n0_
                    have HO_12 := n1_
                    have HO_242001 := n2_
                    have BK241 := n3_
                    have BK256 := n4_
                    have GW256 := n5_
                    have GE256 := n6_
                    have NB241_256 := n7_
                    have NB256_241 := n8_
                    have HB := n9_
                    clear n0_ n1_ n2_ n3_ n4_ n5_ n6_ n7_ n8_ n9_
                    have hHeld : w78.cell? ⟨gb241, 0, none⟩ = some (.int .i64 4) ∧ w78.cell? ⟨gb241, 1, none⟩ = some (.slice Ao72 x242001_12.length co72) := hS_
                    obtain ⟨Ao80, co80, eo80⟩ := Kd.R_slice HO254.out
                    (first | subst eo80 | (injection eo80 with f1_ f2_ f3_; have f4_ := f1_.symm; have f5_ := f3_.symm; clear f1_ f2_ f3_; subst f4_; subst f5_))
                    refine norm_ (a' := ?_) ?_ ?_
                    rotate_left
                    · simp only [putAll, Act.put, List.setIfInBounds_toArray, List.set_cons_zero, List.set_cons_succ]
                      rfl
                    refine one_ (i := 9) (N := none) #[true, true, true, true, true, true, true, true, true, true, false] rfl rfl (one_of HT_.out (by kernel_rfl)) (by decide) (fun K hK => ?_)
                    have hs79 : w78.cell? ⟨gb256, 0, none⟩ = some (.int .i64 0) := (blk_cell BK256.out 0).trans rfl
                    have hfs79 := blk_frozen BK256.out 0
                    have hns79_0 := NB241_256.out
                    have hms79_0 := NB256_241.out
                    have hs81 : w78.cell? ⟨gb256, 1, none⟩ = some (.slice none 0 0) := (blk_cell BK256.out 1).trans rfl
                    have hfs81 := blk_frozen BK256.out 1
                    have hns81_0 := NB241_256.out
                    have hms81_0 := NB256_241.out
                    refine skip_ (w1 := ?_) (by rfl) rfl ?_ ?_
                    rotate_left
                    · go_simp
                      rfl
                    refine hK.out _ _ ⟨((cell_far (p := ⟨gb256, _, none⟩) NB241_256.out _).trans (((cell_far (p := ⟨gb256, _, none⟩) NB241_256.out _).trans (hHeld.1)))), ((cell_far (p := ⟨gb256, _, none⟩) NB241_256.out _).trans (((cell_far (p := ⟨gb256, _, none⟩) NB241_256.out _).trans (hHeld.2))))⟩ (fun hHeld => ?_)
                    clear hK K
                    refine pure_ (i := 10) (N := some 15) (v := ?_) (a' := ?_) #[true, true, true, true, true, true, true, true, true, true, true] rfl rfl (any_of HT_.out (by kernel_rfl)) (fun _ _ _ h => h) (Or.inl ⟨by rfl, ?_⟩) ?_ ?_
                    rotate_left
                    · intro w'
                      go_simp
                      with_reducible rfl
                    rotate_left
                    · simp only [Act.put, List.setIfInBounds_toArray, List.set_cons_zero, List.set_cons_succ, i64_w, i32_w]
                      rfl
                    refine done_ (done_of HT_.out (by kernel_rfl)) ?_
                    have hnb82 := NB256_241.out
                    have hnc82 := NB241_256.out
                    have hcz83_0 : w78.cell? ⟨gb256, 0, none⟩ = some (.int .i64 0) := (blk_cell BK256.out 0).trans rfl
                    have hcz83_1 : w78.cell? ⟨gb256, 1, none⟩ = some (.slice none 0 0) := (blk_cell BK256.out 1).trans rfl
                    have hfz83_0 := blk_frozen BK256.out 0
                    have hfz83_1 := blk_frozen BK256.out 1
                    try go_wp2_with (first | ((with_reducible refine gate_dst (N := 69) rfl ?_); (try (refine gate_guard (by rfl) ?_; dsimp only)); refine Kd.R_lit (Kd.int .i64) _ 3 ?hg (N := 69) ?hd (xs := ([wrap64 ((Int.tmod (wrap64 (t224 - 1)) 12) + (wrap64 (12 * x11_8))), x10_12, 0] : List Int)) (inner := [.int .i64 (wrap64 ((Int.tmod (wrap64 (t224 - 1)) 12) + (wrap64 (12 * x11_8)))), .int .i64 x10_12, .int .i64 0]) (ok := fun _ => True) (okp := fun _ => True) ?hr ?hp (fun _ hk => hk) trivial (Below.refl _ _) (Nat.le_refl _) (by simp) ?_; (case hd => rfl); (case hg => rfl); (case hr => first | (go_simp; done) | (go_simp; rfl)); (case hp => exact (Reps.one (show Kd.M (Kd.int .i64) _ _ _ (wrap64 ((Int.tmod (wrap64 (t224 - 1)) 12) + (wrap64 (12 * x11_8)))) [.int .i64 (wrap64 ((Int.tmod (wrap64 (t224 - 1)) 12) + (wrap64 (12 * x11_8))))] from rfl) (Reps.one (show Kd.M (Kd.int .i64) _ _ _ x10_12 [.int .i64 x10_12] from rfl) (Reps.one (show Kd.M (Kd.int .i64) _ _ _ 0 [.int .i64 0] from rfl) (Reps.none _ _))))); intro v258 w84 ho85 hb hg_ hnew_; clear hg_ hnew_; (first | rw [← Ny257.out] at ho85 | (simp only [Int.reduceToNat] at ho85; rw [← Ny257.out] at ho85)); have n0_ := Aside0.mk (Kd.N_elder' (by (with_reducible repeat (first | apply Kd.N_alloc | apply Kd.N_drewN | apply Kd.N_drew)); exact (Kd.N_mono (Kd.N_far (p := ⟨gb256, 1, none⟩) (Kd.N_far (p := ⟨gb256, 0, none⟩) (Kd.N_mono HO_12.out (fun k_ hk => (⟨hk, hk.2.2.2⟩ : _ ∧ k_ ≠ gb256))) (fun _ hk => hk.2) (.int .i64 t251)) (fun _ hk => hk.2) (.slice Ao80 t252.length co80)) (fun _ h_ => h_.1))) (Kd.R_base ho85) hb); have n1_ := Aside0.mk (Kd.R_elder' (by (with_reducible repeat (first | apply Kd.R_alloc | apply Kd.R_drewN | apply Kd.R_drew)); exact (Kd.R_mono (Kd.R_far (p := ⟨gb256, 1, none⟩) (Kd.R_far (p := ⟨gb256, 0, none⟩) (Kd.R_types HO_242001.out BK256.out (by decide)) (fun _ hk => hk.2) (.int .i64 t251)) (fun _ hk => hk.2) (.slice Ao80 t252.length co80)) (fun _ h_ => h_.1))) (Kd.R_base ho85) hb); have n2_ := Aside0.mk (Kd.R_elder' (by (with_reducible repeat (first | apply Kd.R_alloc | apply Kd.R_drewN | apply Kd.R_drew)); exact (Kd.R_mono (Kd.R_far (p := ⟨gb256, 1, none⟩) (Kd.R_far (p := ⟨gb256, 0, none⟩) (Kd.R_types HO254.out BK256.out (by decide)) (fun _ hk => hk.2) (.int .i64 t251)) (fun _ hk => hk.2) (.slice Ao80 t252.length co80)) (fun _ h_ => h_.1))) (Kd.R_base ho85) hb); have n3_ := Aside0.mk (Kd.R_lower (Kd.R_new' (Kd.R_new' ho85 (Kd.R_lt (by (with_reducible repeat (first | apply Kd.R_alloc | apply Kd.R_drewN | apply Kd.R_drew)); exact (Kd.R_mono (Kd.R_far (p := ⟨gb256, 1, none⟩) (Kd.R_far (p := ⟨gb256, 0, none⟩) (Kd.R_types HO_242001.out BK256.out (by decide)) (fun _ hk => hk.2) (.int .i64 t251)) (fun _ hk => hk.2) (.slice Ao80 t252.length co80)) (fun _ h_ => h_.1))))) (Kd.R_lt (by (with_reducible repeat (first | apply Kd.R_alloc | apply Kd.R_drewN | apply Kd.R_drew)); exact (Kd.R_mono (Kd.R_far (p := ⟨gb256, 1, none⟩) (Kd.R_far (p := ⟨gb256, 0, none⟩) (Kd.R_types HO254.out BK256.out (by decide)) (fun _ hk => hk.2) (.int .i64 t251)) (fun _ hk => hk.2) (.slice Ao80 t252.length co80)) (fun _ h_ => h_.1))))) (below_size (by repeat (first | (with_reducible first | exact HB.out | apply below_alloc | apply pw_below_drewN | apply below_drew1 | refine below_set ?_ GE241.out | refine below_set ?_ GE256.out) | exact HB.out)))); have n4_ := Aside0.mk (blk_below (g := gb241) (o := .cells #[.int .i64 4, .slice Ao72 x242001_12.length co72] 30 (0, 0)) (by (with_reducible repeat (first | refine blk_drewN ?_ _ | refine blk_drew ?_ | refine blk_alloc ?_ _)); refine blk_far ?_ NB241_256.out _; (with_reducible repeat (first | refine blk_drewN ?_ _ | refine blk_drew ?_ | refine blk_alloc ?_ _)); refine blk_far ?_ NB241_256.out _; (with_reducible repeat (first | refine blk_drewN ?_ _ | refine blk_drew ?_ | refine blk_alloc ?_ _)); exact BK241.out) hb); have n5_ := Aside0.mk (blk_below (g := gb256) (o := .cells #[.int .i64 t251, .slice Ao80 t252.length co80] 27 (0, 0)) (by (with_reducible repeat (first | refine blk_drewN ?_ _ | refine blk_drew ?_ | refine blk_alloc ?_ _)); refine blk_put (cs := #[.int .i64 t251, .slice none 0 0]) ?_ 1 _ rfl; (with_reducible repeat (first | refine blk_drewN ?_ _ | refine blk_drew ?_ | refine blk_alloc ?_ _)); refine blk_put (cs := #[.int .i64 0, .slice none 0 0]) ?_ 0 _ rfl; (with_reducible repeat (first | refine blk_drewN ?_ _ | refine blk_drew ?_ | refine blk_alloc ?_ _)); exact BK256.out) hb); have n6_ := Aside0.mk (below_step (by repeat (first | (with_reducible first | exact HB.out | apply below_alloc | apply pw_below_drewN | apply below_drew1 | refine below_set ?_ GE241.out | refine below_set ?_ GE256.out) | exact HB.out)) hb); clear HO_12; clear HO_242001; clear HO254; clear BK241; clear BK256; clear HB; have HO_12 := n0_; have HO_242001 := n1_; have HO254 := n2_; have HO259 := n3_; have BK241 := n4_; have BK256 := n5_; have HB := n6_; clear n0_ n1_ n2_ n3_ n4_ n5_ n6_; clear hb ho85; obtain ⟨Ao86, co86, eo86⟩ := Kd.R_slice HO259.out; subst eo86) | (go_at_call 24; (with_reducible refine (interlocutorref10_Cmp.calls kj12 t251 _ _ t252 5 _ _ y257 t260 _ ?side1 ?side2 ?side3 ?side4 A71.out).mono ?_); (case side1 => repeat (first | exact (Kd.R_reads' HO254.out).2.2 | (with_reducible refine Kd.C_alloc ?_ _) | (with_reducible refine Kd.C_drewN ?_ _) | (with_reducible refine Kd.C_drew ?_))); (case side2 => exact (Kd.R_reads' HO254.out).2.1); (case side3 => repeat (first | exact (Kd.R_reads' HO259.out).2.2 | (with_reducible refine Kd.C_alloc ?_ _) | (with_reducible refine Kd.C_drewN ?_ _) | (with_reducible refine Kd.C_drew ?_))); (case side4 => exact (Kd.R_reads' HO259.out).2.1); rintro e w87 ⟨rfl, hb⟩; have n0_ := Aside0.mk (Kd.N_below (by (with_reducible repeat (first | apply Kd.N_alloc | apply Kd.N_drewN | apply Kd.N_drew)); exact HO_12.out) hb); have n1_ := Aside0.mk (Kd.R_below (by (with_reducible repeat (first | apply Kd.R_alloc | apply Kd.R_drewN | apply Kd.R_drew)); exact HO_242001.out) hb); have n2_ := Aside0.mk (Kd.R_below (by (with_reducible repeat (first | apply Kd.R_alloc | apply Kd.R_drewN | apply Kd.R_drew)); exact HO254.out) hb); have n3_ := Aside0.mk (Kd.R_below (by (with_reducible repeat (first | apply Kd.R_alloc | apply Kd.R_drewN | apply Kd.R_drew)); exact HO259.out) hb); have n4_ := Aside0.mk (blk_below (g := gb241) (o := .cells #[.int .i64 4, .slice Ao72 x242001_12.length co72] 30 (0, 0)) (by (with_reducible repeat (first | refine blk_drewN ?_ _ | refine blk_drew ?_ | refine blk_alloc ?_ _)); exact BK241.out) hb); have n5_ := Aside0.mk (blk_below (g := gb256) (o := .cells #[.int .i64 t251, .slice Ao80 t252.length co80] 27 (0, 0)) (by (with_reducible repeat (first | refine blk_drewN ?_ _ | refine blk_drew ?_ | refine blk_alloc ?_ _)); exact BK256.out) hb); have n6_ := Aside0.mk (below_step (by repeat (first | (with_reducible first | exact HB.out | apply below_alloc | apply pw_below_drewN | apply below_drew1 | refine below_set ?_ GE241.out | refine below_set ?_ GE256.out) | exact HB.out)) hb); clear HO_12; clear HO_242001; clear HO254; clear HO259; clear BK241; clear BK256; clear HB; have HO_12 := n0_; have HO_242001 := n1_; have HO254 := n2_; have HO259 := n3_; have BK241 := n4_; have BK256 := n5_; have HB := n6_; clear n0_ n1_ n2_ n3_ n4_ n5_ n6_; (try clear hb); (try clear hb2); (try clear hk); (try clear hi)))
                    go_ret
                    exact ⟨by first | rfl | (simp [errW_none, errW_some] <;> rfl) | (simp only [← hji12]; first | rfl | (simp [errW_none, errW_some] <;> rfl)) | (simp [*, errW_none, errW_some] <;> rfl), by repeat (first | (with_reducible first | exact HB.out | apply below_alloc | apply pw_below_drewN | apply below_drew1 | refine below_set ?_ GE241.out | refine below_set ?_ GE256.out) | exact HB.out)⟩
                  · replace c70 := Bool.eq_false_iff.mpr c70
                    subst c70
                    have H1 : (some false) = some r := by rw [if_neg (show ¬ (false = true) by decide)] at H; exact H
                    clear H
                    have H := H1
                    clear H1
                    obtain rfl := Option.some.inj H
                    obtain ⟨Ao88, co88, eo88⟩ := Kd.R_slice HO_242001.out
                    subst eo88
                    obtain ⟨Ao89, co89, eo89⟩ := Kd.N_slice HO_12.out
                    subst eo89
                    try go_wp2
                    have n0_ := Aside0.mk (Kd.N_drew HO_12.out)
                    have n1_ := Aside0.mk (Kd.R_drew HO_242001.out)
                    have n2_ := Aside0.mk (blk_drew BK241.out)
                    have n3_ := Aside0.mk (below_drew1 HB.out)
                    clear HO_12
                    clear HO_242001
                    clear BK241
                    clear HB
                    have HO_12 := n0_
                    have HO_242001 := n1_
                    have BK241 := n2_
                    have HB := n3_
                    clear n0_ n1_ n2_ n3_
                    refine start_ (n := 11) (S := fun w' => w'.cell? ⟨gb241, 0, none⟩ = some (.int .i64 4) ∧ w'.cell? ⟨gb241, 1, none⟩ = some (.slice Ao88 x242001_12.length co88)) (ds := []) #[false, false, false, false, false, false, false, false, false, false, false] (by kernel_rfl) rfl rfl ⟨(blk_cell BK241.out 0).trans rfl, (blk_cell BK241.out 1).trans rfl⟩ (fun hHeld => ?_); refine with_tabW interlocutorlaw8_ActHalves.tab12 interlocutorlaw8_ActHalves.bits12 (fun HT_ HW_ => ?_)
                    generalize wc.drew = w90 at HO_12 HO_242001 BK241 HB hHeld ⊢
                    refine pure_ (i := 1) (N := some 42) (v := ?_) (a' := ?_) #[false, true, false, false, false, false, false, false, false, false, false] rfl rfl (any_of HT_.out (by kernel_rfl)) (fun _ _ _ h => h) (Or.inl ⟨by rfl, ?_⟩) ?_ ?_
                    rotate_left
                    · intro w'
                      go_simp
                      with_reducible rfl
                    rotate_left
                    · simp only [Act.put, List.setIfInBounds_toArray, List.set_cons_zero, List.set_cons_succ, i64_w, i32_w]
                      rfl
                    refine pure_ (i := 2) (N := some 43) (v := ?_) (a' := ?_) #[false, true, true, false, false, false, false, false, false, false, false] rfl rfl (any_of HT_.out (by kernel_rfl)) (fun _ _ _ h => h) (Or.inl ⟨by rfl, ?_⟩) ?_ ?_
                    rotate_left
                    · intro w'
                      go_simp
                      with_reducible rfl
                    rotate_left
                    · simp only [Act.put, List.setIfInBounds_toArray, List.set_cons_zero, List.set_cons_succ, i64_w, i32_w]
                      rfl
                    refine take_ (i := 0) (N := some 41) (v := ?_) (a' := ?_) #[true, true, true, false, false, false, false, false, false, false, false] rfl rfl (take_ofW HT_.out HW_.out (by kernel_rfl)) (fun _ _ _ h => h) (Or.inl ⟨by rfl, ?_⟩) hHeld ?_ ?_
                    rotate_left
                    · rintro w' ⟨s0, s1⟩
                      go_simp
                      with_reducible rfl
                    rotate_left
                    · simp only [Act.put, List.setIfInBounds_toArray, List.set_cons_zero, List.set_cons_succ, i64_w, i32_w]
                      rfl
                    refine join_ (σ := Value × Nat) 2 #[true, true, true, true, true, true, true, true, true, false, false] (fun s_ => [(44, .agg #[.int .i64 t245, .int .i64 t246, .int .i64 t247, .int .i64 t248, .int .i64 t249, .int .i64 t250]), (45, .tuple #[.agg #[.int .i64 t251, s_.1], .bool false]), (14, .pointer (some ⟨s_.2, 0, none⟩)), (40, .tuple #[.agg #[.int .i64 t251, s_.1], .bool false]), (46, .agg #[.int .i64 t251, s_.1]), (47, .bool false)]) (fun s_ w' => (w'.cell? ⟨gb241, 0, none⟩ = some (.int .i64 4) ∧ w'.cell? ⟨gb241, 1, none⟩ = some (.slice Ao88 x242001_12.length co88)) ∧ (Kd.R (Kd.int .i64) 3 w' w.heap.size (fun k_ => some k_ ≠ (.slice Ao88 x242001_12.length co88 : Value).ownBlock) s_.1 t252) ∧ (Kd.N k27 27 w' w.heap.size (fun k_ => some k_ ≠ (s_.1 : Value).ownBlock ∧ some k_ ≠ (.slice Ao88 x242001_12.length co88 : Value).ownBlock ∧ k_ ≠ gb241 ∧ k_ ≠ s_.2) (.slice Ao89 y235.length co89) y235) ∧ (Kd.R (Kd.int .i64) 3 w' w.heap.size (fun k_ => some k_ ≠ (s_.1 : Value).ownBlock) (.slice Ao88 x242001_12.length co88) x242001_12) ∧ (w'.heap[gb241]? = some (.cells #[.int .i64 4, .slice Ao88 x242001_12.length co88] 30 (0, 0))) ∧ (w'.heap[s_.2]? = some (.cells #[.int .i64 0, .slice none 0 0] 27 (0, 0))) ∧ (w.heap.size ≤ s_.2) ∧ (w.heap.size ≤ s_.2) ∧ (gb241 ≠ s_.2) ∧ (s_.2 ≠ gb241) ∧ (Below w.heap.size w w')) ?_ ?_
                    rotate_left
                    · intro hCont
                      refine two_ (i := 3) (j := 8) (Ni := some 44) (Nj := some 14) #[true, true, true, true, false, false, false, false, false, false, false] #[true, true, true, false, false, false, false, false, true, false, false] rfl rfl rfl rfl (two_of HT_.out (by kernel_rfl)) (by decide) (by decide) (fun K hK => ?_) (fun K hK => ?_)
                      · skip
                        refine goes_ Try.func21 (by kernel_rfl) rfl #[.int .i64 a0] (by rfl) rfl rfl (by (try simp only [List.map_toArray, List.map_cons, List.map_nil]); first | done | rfl | (simp only [List.length_drop, List.length_take]; rfl)) ?_
                        with_reducible refine (interlocutorlaw8_Ref.calls a0 t245 t246 t247 t248 t249 t250 _ A35.out).mono ?_
                        rintro e w91 ⟨rfl, hb⟩
                        refine ⟨_, rfl, ?_⟩
                        have n0_ := Aside0.mk (Kd.N_below (by (with_reducible repeat (first | apply Kd.N_alloc | apply Kd.N_drewN | apply Kd.N_drew)); exact HO_12.out) hb)
                        have n1_ := Aside0.mk (Kd.R_below (by (with_reducible repeat (first | apply Kd.R_alloc | apply Kd.R_drewN | apply Kd.R_drew)); exact HO_242001.out) hb)
                        have n2_ := Aside0.mk (blk_below (g := gb241) (o := .cells #[.int .i64 4, .slice Ao88 x242001_12.length co88] 30 (0, 0)) (by (with_reducible repeat (first | refine blk_drewN ?_ _ | refine blk_drew ?_ | refine blk_alloc ?_ _)); exact BK241.out) hb)
                        have n3_ := Aside0.mk (below_step (by repeat (first | (with_reducible first | exact HB.out | apply below_alloc | apply pw_below_drewN | apply below_drew1 | refine below_set ?_ GE241.out) | exact HB.out)) hb)
                        clear HO_12
                        clear HO_242001
                        clear BK241
                        clear HB
                        have HO_12 := n0_
                        have HO_242001 := n1_
                        have BK241 := n2_
                        have HB := n3_
                        clear n0_ n1_ n2_ n3_
                        (try clear hb)
                        (try clear hb2)
                        (try clear hk)
                        (try clear hi)
                        refine hK.out _ _ ⟨(blk_cell BK241.out 0).trans rfl, (blk_cell BK241.out 1).trans rfl⟩ (fun hHeld => ?_)
                        clear hK K
                        refine norm_ (a' := ?_) ?_ ?_
                        rotate_left
                        · show Act.put _ (some 44) _ = _
                          simp only [Act.put, List.setIfInBounds_toArray, List.set_cons_zero, List.set_cons_succ, i64_w, i32_w]
                          rfl
                        refine two_ (i := 4) (j := 8) (Ni := some 45) (Nj := some 14) #[true, true, true, true, true, false, false, false, false, false, false] #[true, true, true, true, false, false, false, false, true, false, false] rfl rfl rfl rfl (two_of HT_.out (by kernel_rfl)) (by decide) (by decide) (fun K hK => ?_) (fun K hK => ?_)
                        · skip
                          refine goes_ Try.func22 (by kernel_rfl) rfl #[.agg #[.int .i64 4, .slice Ao88 x242001_12.length co88], .slice Ao89 y235.length co89, .agg #[.int .i64 t245, .int .i64 t246, .int .i64 t247, .int .i64 t248, .int .i64 t249, .int .i64 t250]] (by rfl) rfl rfl (by (try simp only [List.map_toArray, List.map_cons, List.map_nil]); first | done | rfl | (simp only [List.length_drop, List.length_take]; rfl)) ?_
                          with_reducible refine (act_Do.calls kj12 4 _ _ x242001_12 _ _ y235 t245 t246 t247 t248 t249 t250 t251 t252 false _ ?side1 ?side2 ?side3 ?side4 A36.out).mono ?_
                          (case side1 => repeat (first | exact (Kd.R_reads' HO_242001.out).2.2 | (with_reducible refine Kd.C_alloc ?_ _) | (with_reducible refine Kd.C_drewN ?_ _) | (with_reducible refine Kd.C_drew ?_)))
                          (case side2 => exact (Kd.R_reads' HO_242001.out).2.1)
                          (case side3 => repeat (first | exact (Kd.N_reads' HO_12.out).2.2 | (with_reducible refine Kd.C_alloc ?_ _) | (with_reducible refine Kd.C_drewN ?_ _) | (with_reducible refine Kd.C_drew ?_)))
                          (case side4 => exact (Kd.N_reads' HO_12.out).2.1)
                          rintro e w92 ⟨v253, rfl, ho0, hb⟩
                          refine ⟨_, rfl, ?_⟩
                          have n0_ := Aside0.mk (Kd.N_elder' (by (with_reducible repeat (first | apply Kd.N_alloc | apply Kd.N_drewN | apply Kd.N_drew)); exact HO_12.out) (Kd.R_base ho0) hb)
                          have n1_ := Aside0.mk (Kd.R_elder' (by (with_reducible repeat (first | apply Kd.R_alloc | apply Kd.R_drewN | apply Kd.R_drew)); exact HO_242001.out) (Kd.R_base ho0) hb)
                          have n2_ := Aside0.mk (Kd.R_lower (Kd.R_new' ho0 (Kd.R_lt (by (with_reducible repeat (first | apply Kd.R_alloc | apply Kd.R_drewN | apply Kd.R_drew)); exact HO_242001.out))) (below_size (by repeat (first | (with_reducible first | exact HB.out | apply below_alloc | apply pw_below_drewN | apply below_drew1 | refine below_set ?_ GE241.out) | exact HB.out))))
                          have n3_ := Aside0.mk (blk_below (g := gb241) (o := .cells #[.int .i64 4, .slice Ao88 x242001_12.length co88] 30 (0, 0)) (by (with_reducible repeat (first | refine blk_drewN ?_ _ | refine blk_drew ?_ | refine blk_alloc ?_ _)); exact BK241.out) hb)
                          have n4_ := Aside0.mk (below_step (by repeat (first | (with_reducible first | exact HB.out | apply below_alloc | apply pw_below_drewN | apply below_drew1 | refine below_set ?_ GE241.out) | exact HB.out)) hb)
                          clear HO_12
                          clear HO_242001
                          clear BK241
                          clear HB
                          have HO_12 := n0_
                          have HO_242001 := n1_
                          have HO254 := n2_
                          have BK241 := n3_
                          have HB := n4_
                          clear n0_ n1_ n2_ n3_ n4_
                          (try clear hb)
                          (try clear hb2)
                          (try clear hk)
                          (try clear hi)
                          (try clear ho0)
                          refine hK.out _ _ ⟨(blk_cell BK241.out 0).trans rfl, (blk_cell BK241.out 1).trans rfl⟩ (fun hHeld => ?_)
                          clear hK K
                          refine norm_ (a' := ?_) ?_ ?_
                          rotate_left
                          · show Act.put _ (some 45) _ = _
                            simp only [Act.put, List.setIfInBounds_toArray, List.set_cons_zero, List.set_cons_succ, i64_w, i32_w]
                            rfl
                          refine pure_ (i := 5) (N := some 40) (v := ?_) (a' := ?_) #[true, true, true, true, true, true, false, false, false, false, false] rfl rfl (any_of HT_.out (by kernel_rfl)) (fun _ _ _ h => h) (Or.inl ⟨by rfl, ?_⟩) ?_ ?_
                          rotate_left
                          · intro w'
                            go_simp
                            with_reducible rfl
                          rotate_left
                          · simp only [Act.put, List.setIfInBounds_toArray, List.set_cons_zero, List.set_cons_succ, i64_w, i32_w]
                            rfl
                          refine pure_ (i := 6) (N := some 46) (v := ?_) (a' := ?_) #[true, true, true, true, true, true, true, false, false, false, false] rfl rfl (any_of HT_.out (by kernel_rfl)) (fun _ _ _ h => h) (Or.inl ⟨by rfl, ?_⟩) ?_ ?_
                          rotate_left
                          · intro w'
                            go_simp
                            with_reducible rfl
                          rotate_left
                          · simp only [Act.put, List.setIfInBounds_toArray, List.set_cons_zero, List.set_cons_succ, i64_w, i32_w]
                            rfl
                          refine pure_ (i := 7) (N := some 47) (v := ?_) (a' := ?_) #[true, true, true, true, true, true, true, true, false, false, false] rfl rfl (any_of HT_.out (by kernel_rfl)) (fun _ _ _ h => h) (Or.inl ⟨by rfl, ?_⟩) ?_ ?_
                          rotate_left
                          · intro w'
                            go_simp
                            with_reducible rfl
                          rotate_left
                          · simp only [Act.put, List.setIfInBounds_toArray, List.set_cons_zero, List.set_cons_succ, i64_w, i32_w]
                            rfl
                          refine one_ (i := 8) (N := some 14) #[true, true, true, true, true, true, true, true, true, false, false] rfl rfl (one_of HT_.out (by kernel_rfl)) (by decide) (fun K hK => ?_)
                          refine box_step ?hg (N := 14) ?hd (cs := #[.int .i64 0, .slice none 0 0]) (t := 27) ?hr ?_; (case hd => rfl); (case hg => rfl); (case hr => first | (go_simp; done) | (go_simp; rfl))
                          intro gb256 hg w93 hbox hb
                          have n0_ := Aside0.mk (Kd.N_below (Kd.N_elderB (by (with_reducible repeat (first | apply Kd.N_alloc | apply Kd.N_drewN | apply Kd.N_drew)); exact HO_12.out) gb256 (Nat.le_of_eq hg.symm)) hb)
                          have n1_ := Aside0.mk (Kd.R_below (by (with_reducible repeat (first | apply Kd.R_alloc | apply Kd.R_drewN | apply Kd.R_drew)); exact HO_242001.out) hb)
                          have n2_ := Aside0.mk (Kd.R_below (by (with_reducible repeat (first | apply Kd.R_alloc | apply Kd.R_drewN | apply Kd.R_drew)); exact HO254.out) hb)
                          have n3_ := Aside0.mk (blk_below (g := gb241) (o := .cells #[.int .i64 4, .slice Ao88 x242001_12.length co88] 30 (0, 0)) (by (with_reducible repeat (first | refine blk_drewN ?_ _ | refine blk_drew ?_ | refine blk_alloc ?_ _)); exact BK241.out) hb)
                          have n4_ := Aside0.mk (below_step (by repeat (first | (with_reducible first | exact HB.out | apply below_alloc | apply pw_below_drewN | apply below_drew1 | refine below_set ?_ GE241.out) | exact HB.out)) hb)
                          have n5_ := Aside0.mk (hbox)
                          have n6_ := Aside0.mk ((by rw [hg]; exact (below_size (by repeat (first | (with_reducible first | exact HB.out | apply below_alloc | apply pw_below_drewN | apply below_drew1 | refine below_set ?_ GE241.out) | exact HB.out))) : w.heap.size ≤ gb256))
                          have n7_ := Aside0.mk ((by rw [hg]; exact (below_size (by repeat (first | (with_reducible first | exact HB.out | apply below_alloc | apply pw_below_drewN | apply below_drew1 | refine below_set ?_ GE241.out) | exact HB.out))) : w.heap.size ≤ gb256))
                          have n8_ := Aside0.mk ((by rw [hg]; exact Nat.ne_of_lt (blk_lt (g := gb241) (o := .cells #[.int .i64 4, .slice Ao88 x242001_12.length co88] 30 (0, 0)) (by (with_reducible repeat (first | refine blk_drewN ?_ _ | refine blk_drew ?_ | refine blk_alloc ?_ _)); exact BK241.out)) : gb241 ≠ gb256))
                          have n9_ := Aside0.mk ((by rw [hg]; exact Nat.ne_of_gt (blk_lt (g := gb241) (o := .cells #[.int .i64 4, .slice Ao88 x242001_12.length co88] 30 (0, 0)) (by (with_reducible repeat (first | refine blk_drewN ?_ _ | refine blk_drew ?_ | refine blk_alloc ?_ _)); exact BK241.out)) : gb256 ≠ gb241))
                          clear HO_12
                          clear HO_242001
                          clear HO254
                          clear BK241
                          clear HB
                          have HO_12 := n0_
                          have HO_242001 := n1_
                          have HO254 := n2_
                          have BK241 := n3_
                          have HB := n4_
                          have BK256 := n5_
                          have GW256 := n6_
                          have GE256 := n7_
                          have NB241_256 := n8_
                          have NB256_241 := n9_
                          clear n0_ n1_ n2_ n3_ n4_ n5_ n6_ n7_ n8_ n9_
                          clear hb hbox hg
                          refine hK.out _ _ ⟨(blk_cell BK241.out 0).trans rfl, (blk_cell BK241.out 1).trans rfl⟩ (fun hHeld => ?_)
                          clear hK K
                          refine norm_ (a' := ?_) ?_ ?_
                          rotate_left
                          · show Act.put _ (some 14) _ = _
                            simp only [Act.put, List.setIfInBounds_toArray, List.set_cons_zero, List.set_cons_succ, i64_w, i32_w]
                            rfl
                          exact norm_ (by simp only [putAll, Act.put, List.setIfInBounds_toArray, List.set_cons_zero, List.set_cons_succ]) (hCont (v253, gb256) _ ⟨hHeld, (by (with_reducible repeat (first | apply Kd.R_alloc | apply Kd.R_drewN | apply Kd.R_drew)); exact Kd.R_mono HO254.out (fun _ hk => hk.2)), (by (with_reducible repeat (first | apply Kd.N_alloc | apply Kd.N_drewN | apply Kd.N_drew)); exact Kd.N_mono HO_12.out (fun _ hk => ⟨hk.1.2, ⟨hk.1.1.1, ⟨hk.1.1.2, hk.2⟩⟩⟩)), (by (with_reducible repeat (first | apply Kd.R_alloc | apply Kd.R_drewN | apply Kd.R_drew)); exact Kd.R_mono HO_242001.out (fun _ hk => hk.2)), (by (with_reducible repeat (first | refine blk_drewN ?_ _ | refine blk_drew ?_ | refine blk_alloc ?_ _)); exact BK241.out), (by (with_reducible repeat (first | refine blk_drewN ?_ _ | refine blk_drew ?_ | refine blk_alloc ?_ _)); exact BK256.out), GW256.out, GE256.out, NB241_256.out, NB256_241.out, (by repeat (first | (with_reducible first | exact HB.out | apply below_alloc | apply pw_below_drewN | apply below_drew1 | refine below_set ?_ GE241.out | refine below_set ?_ GE256.out) | exact HB.out))⟩)
                        · skip
                          refine box_step ?hg (N := 14) ?hd (cs := #[.int .i64 0, .slice none 0 0]) (t := 27) ?hr ?_; (case hd => rfl); (case hg => rfl); (case hr => first | (go_simp; done) | (go_simp; rfl))
                          intro gb256 hg w92 hbox hb
                          have n0_ := Aside0.mk (Kd.N_below (Kd.N_elderB (by (with_reducible repeat (first | apply Kd.N_alloc | apply Kd.N_drewN | apply Kd.N_drew)); exact HO_12.out) gb256 (Nat.le_of_eq hg.symm)) hb)
                          have n1_ := Aside0.mk (Kd.R_below (by (with_reducible repeat (first | apply Kd.R_alloc | apply Kd.R_drewN | apply Kd.R_drew)); exact HO_242001.out) hb)
                          have n2_ := Aside0.mk (blk_below (g := gb241) (o := .cells #[.int .i64 4, .slice Ao88 x242001_12.length co88] 30 (0, 0)) (by (with_reducible repeat (first | refine blk_drewN ?_ _ | refine blk_drew ?_ | refine blk_alloc ?_ _)); exact BK241.out) hb)
                          have n3_ := Aside0.mk (below_step (by repeat (first | (with_reducible first | exact HB.out | apply below_alloc | apply pw_below_drewN | apply below_drew1 | refine below_set ?_ GE241.out) | exact HB.out)) hb)
                          have n4_ := Aside0.mk (hbox)
                          have n5_ := Aside0.mk ((by rw [hg]; exact (below_size (by repeat (first | (with_reducible first | exact HB.out | apply below_alloc | apply pw_below_drewN | apply below_drew1 | refine below_set ?_ GE241.out) | exact HB.out))) : w.heap.size ≤ gb256))
                          have n6_ := Aside0.mk ((by rw [hg]; exact (below_size (by repeat (first | (with_reducible first | exact HB.out | apply below_alloc | apply pw_below_drewN | apply below_drew1 | refine below_set ?_ GE241.out) | exact HB.out))) : w.heap.size ≤ gb256))
                          have n7_ := Aside0.mk ((by rw [hg]; exact Nat.ne_of_lt (blk_lt (g := gb241) (o := .cells #[.int .i64 4, .slice Ao88 x242001_12.length co88] 30 (0, 0)) (by (with_reducible repeat (first | refine blk_drewN ?_ _ | refine blk_drew ?_ | refine blk_alloc ?_ _)); exact BK241.out)) : gb241 ≠ gb256))
                          have n8_ := Aside0.mk ((by rw [hg]; exact Nat.ne_of_gt (blk_lt (g := gb241) (o := .cells #[.int .i64 4, .slice Ao88 x242001_12.length co88] 30 (0, 0)) (by (with_reducible repeat (first | refine blk_drewN ?_ _ | refine blk_drew ?_ | refine blk_alloc ?_ _)); exact BK241.out)) : gb256 ≠ gb241))
                          clear HO_12
                          clear HO_242001
                          clear BK241
                          clear HB
                          have HO_12 := n0_
                          have HO_242001 := n1_
                          have BK241 := n2_
                          have HB := n3_
                          have BK256 := n4_
                          have GW256 := n5_
                          have GE256 := n6_
                          have NB241_256 := n7_
                          have NB256_241 := n8_
                          clear n0_ n1_ n2_ n3_ n4_ n5_ n6_ n7_ n8_
                          clear hb hbox hg
                          refine hK.out _ _ ⟨(blk_cell BK241.out 0).trans rfl, (blk_cell BK241.out 1).trans rfl⟩ (fun hHeld => ?_)
                          clear hK K
                          refine norm_ (a' := ?_) ?_ ?_
                          rotate_left
                          · show Act.put _ (some 14) _ = _
                            simp only [Act.put, List.setIfInBounds_toArray, List.set_cons_zero, List.set_cons_succ, i64_w, i32_w]
                            rfl
                          refine one_ (i := 4) (N := some 45) #[true, true, true, true, true, false, false, false, true, false, false] rfl rfl (one_of HT_.out (by kernel_rfl)) (by decide) (fun K hK => ?_)
                          refine goes_ Try.func22 (by kernel_rfl) rfl #[.agg #[.int .i64 4, .slice Ao88 x242001_12.length co88], .slice Ao89 y235.length co89, .agg #[.int .i64 t245, .int .i64 t246, .int .i64 t247, .int .i64 t248, .int .i64 t249, .int .i64 t250]] (by rfl) rfl rfl (by (try simp only [List.map_toArray, List.map_cons, List.map_nil]); first | done | rfl | (simp only [List.length_drop, List.length_take]; rfl)) ?_
                          with_reducible refine (act_Do.calls kj12 4 _ _ x242001_12 _ _ y235 t245 t246 t247 t248 t249 t250 t251 t252 false _ ?side1 ?side2 ?side3 ?side4 A36.out).mono ?_
                          (case side1 => repeat (first | exact (Kd.R_reads' HO_242001.out).2.2 | (with_reducible refine Kd.C_alloc ?_ _) | (with_reducible refine Kd.C_drewN ?_ _) | (with_reducible refine Kd.C_drew ?_)))
                          (case side2 => exact (Kd.R_reads' HO_242001.out).2.1)
                          (case side3 => repeat (first | exact (Kd.N_reads' HO_12.out).2.2 | (with_reducible refine Kd.C_alloc ?_ _) | (with_reducible refine Kd.C_drewN ?_ _) | (with_reducible refine Kd.C_drew ?_)))
                          (case side4 => exact (Kd.N_reads' HO_12.out).2.1)
                          rintro e w93 ⟨v253, rfl, ho0, hb⟩
                          refine ⟨_, rfl, ?_⟩
                          have n0_ := Aside0.mk (Kd.N_elder' (by (with_reducible repeat (first | apply Kd.N_alloc | apply Kd.N_drewN | apply Kd.N_drew)); exact HO_12.out) (Kd.R_base ho0) hb)
                          have n1_ := Aside0.mk (Kd.R_elder' (by (with_reducible repeat (first | apply Kd.R_alloc | apply Kd.R_drewN | apply Kd.R_drew)); exact HO_242001.out) (Kd.R_base ho0) hb)
                          have n2_ := Aside0.mk (Kd.R_lower (Kd.R_new' ho0 (Kd.R_lt (by (with_reducible repeat (first | apply Kd.R_alloc | apply Kd.R_drewN | apply Kd.R_drew)); exact HO_242001.out))) (below_size (by repeat (first | (with_reducible first | exact HB.out | apply below_alloc | apply pw_below_drewN | apply below_drew1 | refine below_set ?_ GE241.out | refine below_set ?_ GE256.out) | exact HB.out))))
                          have n3_ := Aside0.mk (blk_below (g := gb241) (o := .cells #[.int .i64 4, .slice Ao88 x242001_12.length co88] 30 (0, 0)) (by (with_reducible repeat (first | refine blk_drewN ?_ _ | refine blk_drew ?_ | refine blk_alloc ?_ _)); exact BK241.out) hb)
                          have n4_ := Aside0.mk (blk_below (g := gb256) (o := .cells #[.int .i64 0, .slice none 0 0] 27 (0, 0)) (by (with_reducible repeat (first | refine blk_drewN ?_ _ | refine blk_drew ?_ | refine blk_alloc ?_ _)); exact BK256.out) hb)
                          have n5_ := Aside0.mk (below_step (by repeat (first | (with_reducible first | exact HB.out | apply below_alloc | apply pw_below_drewN | apply below_drew1 | refine below_set ?_ GE241.out | refine below_set ?_ GE256.out) | exact HB.out)) hb)
                          clear HO_12
                          clear HO_242001
                          clear BK241
                          clear BK256
                          clear HB
                          have HO_12 := n0_
                          have HO_242001 := n1_
                          have HO254 := n2_
                          have BK241 := n3_
                          have BK256 := n4_
                          have HB := n5_
                          clear n0_ n1_ n2_ n3_ n4_ n5_
                          (try clear hb)
                          (try clear hb2)
                          (try clear hk)
                          (try clear hi)
                          (try clear ho0)
                          refine hK.out _ _ ⟨(blk_cell BK241.out 0).trans rfl, (blk_cell BK241.out 1).trans rfl⟩ (fun hHeld => ?_)
                          clear hK K
                          refine norm_ (a' := ?_) ?_ ?_
                          rotate_left
                          · show Act.put _ (some 45) _ = _
                            simp only [Act.put, List.setIfInBounds_toArray, List.set_cons_zero, List.set_cons_succ, i64_w, i32_w]
                            rfl
                          refine pure_ (i := 5) (N := some 40) (v := ?_) (a' := ?_) #[true, true, true, true, true, true, false, false, true, false, false] rfl rfl (any_of HT_.out (by kernel_rfl)) (fun _ _ _ h => h) (Or.inl ⟨by rfl, ?_⟩) ?_ ?_
                          rotate_left
                          · intro w'
                            go_simp
                            with_reducible rfl
                          rotate_left
                          · simp only [Act.put, List.setIfInBounds_toArray, List.set_cons_zero, List.set_cons_succ, i64_w, i32_w]
                            rfl
                          refine pure_ (i := 6) (N := some 46) (v := ?_) (a' := ?_) #[true, true, true, true, true, true, true, false, true, false, false] rfl rfl (any_of HT_.out (by kernel_rfl)) (fun _ _ _ h => h) (Or.inl ⟨by rfl, ?_⟩) ?_ ?_
                          rotate_left
                          · intro w'
                            go_simp
                            with_reducible rfl
                          rotate_left
                          · simp only [Act.put, List.setIfInBounds_toArray, List.set_cons_zero, List.set_cons_succ, i64_w, i32_w]
                            rfl
                          refine pure_ (i := 7) (N := some 47) (v := ?_) (a' := ?_) #[true, true, true, true, true, true, true, true, true, false, false] rfl rfl (any_of HT_.out (by kernel_rfl)) (fun _ _ _ h => h) (Or.inl ⟨by rfl, ?_⟩) ?_ ?_
                          rotate_left
                          · intro w'
                            go_simp
                            with_reducible rfl
                          rotate_left
                          · simp only [Act.put, List.setIfInBounds_toArray, List.set_cons_zero, List.set_cons_succ, i64_w, i32_w]
                            rfl
                          exact norm_ (by simp only [putAll, Act.put, List.setIfInBounds_toArray, List.set_cons_zero, List.set_cons_succ]) (hCont (v253, gb256) _ ⟨hHeld, (by (with_reducible repeat (first | apply Kd.R_alloc | apply Kd.R_drewN | apply Kd.R_drew)); exact Kd.R_mono HO254.out (fun _ hk => hk.2)), (by (with_reducible repeat (first | apply Kd.N_alloc | apply Kd.N_drewN | apply Kd.N_drew)); exact Kd.N_mono HO_12.out (fun _ hk => ⟨hk.2, ⟨hk.1.1.1, ⟨hk.1.1.2, hk.1.2⟩⟩⟩)), (by (with_reducible repeat (first | apply Kd.R_alloc | apply Kd.R_drewN | apply Kd.R_drew)); exact Kd.R_mono HO_242001.out (fun _ hk => hk.2)), (by (with_reducible repeat (first | refine blk_drewN ?_ _ | refine blk_drew ?_ | refine blk_alloc ?_ _)); exact BK241.out), (by (with_reducible repeat (first | refine blk_drewN ?_ _ | refine blk_drew ?_ | refine blk_alloc ?_ _)); exact BK256.out), GW256.out, GE256.out, NB241_256.out, NB256_241.out, (by repeat (first | (with_reducible first | exact HB.out | apply below_alloc | apply pw_below_drewN | apply below_drew1 | refine below_set ?_ GE241.out | refine below_set ?_ GE256.out) | exact HB.out))⟩)
                      · skip
                        refine box_step ?hg (N := 14) ?hd (cs := #[.int .i64 0, .slice none 0 0]) (t := 27) ?hr ?_; (case hd => rfl); (case hg => rfl); (case hr => first | (go_simp; done) | (go_simp; rfl))
                        intro gb256 hg w91 hbox hb
                        have n0_ := Aside0.mk (Kd.N_below (Kd.N_elderB (by (with_reducible repeat (first | apply Kd.N_alloc | apply Kd.N_drewN | apply Kd.N_drew)); exact HO_12.out) gb256 (Nat.le_of_eq hg.symm)) hb)
                        have n1_ := Aside0.mk (Kd.R_below (by (with_reducible repeat (first | apply Kd.R_alloc | apply Kd.R_drewN | apply Kd.R_drew)); exact HO_242001.out) hb)
                        have n2_ := Aside0.mk (blk_below (g := gb241) (o := .cells #[.int .i64 4, .slice Ao88 x242001_12.length co88] 30 (0, 0)) (by (with_reducible repeat (first | refine blk_drewN ?_ _ | refine blk_drew ?_ | refine blk_alloc ?_ _)); exact BK241.out) hb)
                        have n3_ := Aside0.mk (below_step (by repeat (first | (with_reducible first | exact HB.out | apply below_alloc | apply pw_below_drewN | apply below_drew1 | refine below_set ?_ GE241.out) | exact HB.out)) hb)
                        have n4_ := Aside0.mk (hbox)
                        have n5_ := Aside0.mk ((by rw [hg]; exact (below_size (by repeat (first | (with_reducible first | exact HB.out | apply below_alloc | apply pw_below_drewN | apply below_drew1 | refine below_set ?_ GE241.out) | exact HB.out))) : w.heap.size ≤ gb256))
                        have n6_ := Aside0.mk ((by rw [hg]; exact (below_size (by repeat (first | (with_reducible first | exact HB.out | apply below_alloc | apply pw_below_drewN | apply below_drew1 | refine below_set ?_ GE241.out) | exact HB.out))) : w.heap.size ≤ gb256))
                        have n7_ := Aside0.mk ((by rw [hg]; exact Nat.ne_of_lt (blk_lt (g := gb241) (o := .cells #[.int .i64 4, .slice Ao88 x242001_12.length co88] 30 (0, 0)) (by (with_reducible repeat (first | refine blk_drewN ?_ _ | refine blk_drew ?_ | refine blk_alloc ?_ _)); exact BK241.out)) : gb241 ≠ gb256))
                        have n8_ := Aside0.mk ((by rw [hg]; exact Nat.ne_of_gt (blk_lt (g := gb241) (o := .cells #[.int .i64 4, .slice Ao88 x242001_12.length co88] 30 (0, 0)) (by (with_reducible repeat (first | refine blk_drewN ?_ _ | refine blk_drew ?_ | refine blk_alloc ?_ _)); exact BK241.out)) : gb256 ≠ gb241))
                        clear HO_12
                        clear HO_242001
                        clear BK241
                        clear HB
                        have HO_12 := n0_
                        have HO_242001 := n1_
                        have BK241 := n2_
                        have HB := n3_
                        have BK256 := n4_
                        have GW256 := n5_
                        have GE256 := n6_
                        have NB241_256 := n7_
                        have NB256_241 := n8_
                        clear n0_ n1_ n2_ n3_ n4_ n5_ n6_ n7_ n8_
                        clear hb hbox hg
                        refine hK.out _ _ ⟨(blk_cell BK241.out 0).trans rfl, (blk_cell BK241.out 1).trans rfl⟩ (fun hHeld => ?_)
                        clear hK K
                        refine norm_ (a' := ?_) ?_ ?_
                        rotate_left
                        · show Act.put _ (some 14) _ = _
                          simp only [Act.put, List.setIfInBounds_toArray, List.set_cons_zero, List.set_cons_succ, i64_w, i32_w]
                          rfl
                        refine one_ (i := 3) (N := some 44) #[true, true, true, true, false, false, false, false, true, false, false] rfl rfl (one_of HT_.out (by kernel_rfl)) (by decide) (fun K hK => ?_)
                        refine goes_ Try.func21 (by kernel_rfl) rfl #[.int .i64 a0] (by rfl) rfl rfl (by (try simp only [List.map_toArray, List.map_cons, List.map_nil]); first | done | rfl | (simp only [List.length_drop, List.length_take]; rfl)) ?_
                        with_reducible refine (interlocutorlaw8_Ref.calls a0 t245 t246 t247 t248 t249 t250 _ A35.out).mono ?_
                        rintro e w92 ⟨rfl, hb⟩
                        refine ⟨_, rfl, ?_⟩
                        have n0_ := Aside0.mk (Kd.N_below (by (with_reducible repeat (first | apply Kd.N_alloc | apply Kd.N_drewN | apply Kd.N_drew)); exact HO_12.out) hb)
                        have n1_ := Aside0.mk (Kd.R_below (by (with_reducible repeat (first | apply Kd.R_alloc | apply Kd.R_drewN | apply Kd.R_drew)); exact HO_242001.out) hb)
                        have n2_ := Aside0.mk (blk_below (g := gb241) (o := .cells #[.int .i64 4, .slice Ao88 x242001_12.length co88] 30 (0, 0)) (by (with_reducible repeat (first | refine blk_drewN ?_ _ | refine blk_drew ?_ | refine blk_alloc ?_ _)); exact BK241.out) hb)
                        have n3_ := Aside0.mk (blk_below (g := gb256) (o := .cells #[.int .i64 0, .slice none 0 0] 27 (0, 0)) (by (with_reducible repeat (first | refine blk_drewN ?_ _ | refine blk_drew ?_ | refine blk_alloc ?_ _)); exact BK256.out) hb)
                        have n4_ := Aside0.mk (below_step (by repeat (first | (with_reducible first | exact HB.out | apply below_alloc | apply pw_below_drewN | apply below_drew1 | refine below_set ?_ GE241.out | refine below_set ?_ GE256.out) | exact HB.out)) hb)
                        clear HO_12
                        clear HO_242001
                        clear BK241
                        clear BK256
                        clear HB
                        have HO_12 := n0_
                        have HO_242001 := n1_
                        have BK241 := n2_
                        have BK256 := n3_
                        have HB := n4_
                        clear n0_ n1_ n2_ n3_ n4_
                        (try clear hb)
                        (try clear hb2)
                        (try clear hk)
                        (try clear hi)
                        refine hK.out _ _ ⟨(blk_cell BK241.out 0).trans rfl, (blk_cell BK241.out 1).trans rfl⟩ (fun hHeld => ?_)
                        clear hK K
                        refine norm_ (a' := ?_) ?_ ?_
                        rotate_left
                        · show Act.put _ (some 44) _ = _
                          simp only [Act.put, List.setIfInBounds_toArray, List.set_cons_zero, List.set_cons_succ, i64_w, i32_w]
                          rfl
                        refine one_ (i := 4) (N := some 45) #[true, true, true, true, true, false, false, false, true, false, false] rfl rfl (one_of HT_.out (by kernel_rfl)) (by decide) (fun K hK => ?_)
                        refine goes_ Try.func22 (by kernel_rfl) rfl #[.agg #[.int .i64 4, .slice Ao88 x242001_12.length co88], .slice Ao89 y235.length co89, .agg #[.int .i64 t245, .int .i64 t246, .int .i64 t247, .int .i64 t248, .int .i64 t249, .int .i64 t250]] (by rfl) rfl rfl (by (try simp only [List.map_toArray, List.map_cons, List.map_nil]); first | done | rfl | (simp only [List.length_drop, List.length_take]; rfl)) ?_
                        with_reducible refine (act_Do.calls kj12 4 _ _ x242001_12 _ _ y235 t245 t246 t247 t248 t249 t250 t251 t252 false _ ?side1 ?side2 ?side3 ?side4 A36.out).mono ?_
                        (case side1 => repeat (first | exact (Kd.R_reads' HO_242001.out).2.2 | (with_reducible refine Kd.C_alloc ?_ _) | (with_reducible refine Kd.C_drewN ?_ _) | (with_reducible refine Kd.C_drew ?_)))
                        (case side2 => exact (Kd.R_reads' HO_242001.out).2.1)
                        (case side3 => repeat (first | exact (Kd.N_reads' HO_12.out).2.2 | (with_reducible refine Kd.C_alloc ?_ _) | (with_reducible refine Kd.C_drewN ?_ _) | (with_reducible refine Kd.C_drew ?_)))
                        (case side4 => exact (Kd.N_reads' HO_12.out).2.1)
                        rintro e w93 ⟨v253, rfl, ho0, hb⟩
                        refine ⟨_, rfl, ?_⟩
                        have n0_ := Aside0.mk (Kd.N_elder' (by (with_reducible repeat (first | apply Kd.N_alloc | apply Kd.N_drewN | apply Kd.N_drew)); exact HO_12.out) (Kd.R_base ho0) hb)
                        have n1_ := Aside0.mk (Kd.R_elder' (by (with_reducible repeat (first | apply Kd.R_alloc | apply Kd.R_drewN | apply Kd.R_drew)); exact HO_242001.out) (Kd.R_base ho0) hb)
                        have n2_ := Aside0.mk (Kd.R_lower (Kd.R_new' ho0 (Kd.R_lt (by (with_reducible repeat (first | apply Kd.R_alloc | apply Kd.R_drewN | apply Kd.R_drew)); exact HO_242001.out))) (below_size (by repeat (first | (with_reducible first | exact HB.out | apply below_alloc | apply pw_below_drewN | apply below_drew1 | refine below_set ?_ GE241.out | refine below_set ?_ GE256.out) | exact HB.out))))
                        have n3_ := Aside0.mk (blk_below (g := gb241) (o := .cells #[.int .i64 4, .slice Ao88 x242001_12.length co88] 30 (0, 0)) (by (with_reducible repeat (first | refine blk_drewN ?_ _ | refine blk_drew ?_ | refine blk_alloc ?_ _)); exact BK241.out) hb)
                        have n4_ := Aside0.mk (blk_below (g := gb256) (o := .cells #[.int .i64 0, .slice none 0 0] 27 (0, 0)) (by (with_reducible repeat (first | refine blk_drewN ?_ _ | refine blk_drew ?_ | refine blk_alloc ?_ _)); exact BK256.out) hb)
                        have n5_ := Aside0.mk (below_step (by repeat (first | (with_reducible first | exact HB.out | apply below_alloc | apply pw_below_drewN | apply below_drew1 | refine below_set ?_ GE241.out | refine below_set ?_ GE256.out) | exact HB.out)) hb)
                        clear HO_12
                        clear HO_242001
                        clear BK241
                        clear BK256
                        clear HB
                        have HO_12 := n0_
                        have HO_242001 := n1_
                        have HO254 := n2_
                        have BK241 := n3_
                        have BK256 := n4_
                        have HB := n5_
                        clear n0_ n1_ n2_ n3_ n4_ n5_
                        (try clear hb)
                        (try clear hb2)
                        (try clear hk)
                        (try clear hi)
                        (try clear ho0)
                        refine hK.out _ _ ⟨(blk_cell BK241.out 0).trans rfl, (blk_cell BK241.out 1).trans rfl⟩ (fun hHeld => ?_)
                        clear hK K
                        refine norm_ (a' := ?_) ?_ ?_
                        rotate_left
                        · show Act.put _ (some 45) _ = _
                          simp only [Act.put, List.setIfInBounds_toArray, List.set_cons_zero, List.set_cons_succ, i64_w, i32_w]
                          rfl
                        refine pure_ (i := 5) (N := some 40) (v := ?_) (a' := ?_) #[true, true, true, true, true, true, false, false, true, false, false] rfl rfl (any_of HT_.out (by kernel_rfl)) (fun _ _ _ h => h) (Or.inl ⟨by rfl, ?_⟩) ?_ ?_
                        rotate_left
                        · intro w'
                          go_simp
                          with_reducible rfl
                        rotate_left
                        · simp only [Act.put, List.setIfInBounds_toArray, List.set_cons_zero, List.set_cons_succ, i64_w, i32_w]
                          rfl
                        refine pure_ (i := 6) (N := some 46) (v := ?_) (a' := ?_) #[true, true, true, true, true, true, true, false, true, false, false] rfl rfl (any_of HT_.out (by kernel_rfl)) (fun _ _ _ h => h) (Or.inl ⟨by rfl, ?_⟩) ?_ ?_
                        rotate_left
                        · intro w'
                          go_simp
                          with_reducible rfl
                        rotate_left
                        · simp only [Act.put, List.setIfInBounds_toArray, List.set_cons_zero, List.set_cons_succ, i64_w, i32_w]
                          rfl
                        refine pure_ (i := 7) (N := some 47) (v := ?_) (a' := ?_) #[true, true, true, true, true, true, true, true, true, false, false] rfl rfl (any_of HT_.out (by kernel_rfl)) (fun _ _ _ h => h) (Or.inl ⟨by rfl, ?_⟩) ?_ ?_
                        rotate_left
                        · intro w'
                          go_simp
                          with_reducible rfl
                        rotate_left
                        · simp only [Act.put, List.setIfInBounds_toArray, List.set_cons_zero, List.set_cons_succ, i64_w, i32_w]
                          rfl
                        exact norm_ (by simp only [putAll, Act.put, List.setIfInBounds_toArray, List.set_cons_zero, List.set_cons_succ]) (hCont (v253, gb256) _ ⟨hHeld, (by (with_reducible repeat (first | apply Kd.R_alloc | apply Kd.R_drewN | apply Kd.R_drew)); exact Kd.R_mono HO254.out (fun _ hk => hk.2)), (by (with_reducible repeat (first | apply Kd.N_alloc | apply Kd.N_drewN | apply Kd.N_drew)); exact Kd.N_mono HO_12.out (fun _ hk => ⟨hk.2, ⟨hk.1.1.1, ⟨hk.1.1.2, hk.1.2⟩⟩⟩)), (by (with_reducible repeat (first | apply Kd.R_alloc | apply Kd.R_drewN | apply Kd.R_drew)); exact Kd.R_mono HO_242001.out (fun _ hk => hk.2)), (by (with_reducible repeat (first | refine blk_drewN ?_ _ | refine blk_drew ?_ | refine blk_alloc ?_ _)); exact BK241.out), (by (with_reducible repeat (first | refine blk_drewN ?_ _ | refine blk_drew ?_ | refine blk_alloc ?_ _)); exact BK256.out), GW256.out, GE256.out, NB241_256.out, NB256_241.out, (by repeat (first | (with_reducible first | exact HB.out | apply below_alloc | apply pw_below_drewN | apply below_drew1 | refine below_set ?_ GE241.out | refine below_set ?_ GE256.out) | exact HB.out))⟩)
                    rintro ⟨v253, gb256⟩ w94 ⟨hS_, h0_, h1_, h2_, h3_, h4_, h5_, h6_, h7_, h8_, h9_⟩
                    have n0_ : Aside0 (Kd.R (Kd.int .i64) 3 w94 w.heap.size (fun k_ => some k_ ≠ (.slice Ao88 x242001_12.length co88 : Value).ownBlock) v253 t252) := ⟨h0_⟩
                    have n1_ : Aside0 (Kd.N k27 27 w94 w.heap.size (fun k_ => some k_ ≠ (v253 : Value).ownBlock ∧ some k_ ≠ (.slice Ao88 x242001_12.length co88 : Value).ownBlock ∧ k_ ≠ gb241 ∧ k_ ≠ gb256) (.slice Ao89 y235.length co89) y235) := ⟨h1_⟩
                    have n2_ : Aside0 (Kd.R (Kd.int .i64) 3 w94 w.heap.size (fun k_ => some k_ ≠ (v253 : Value).ownBlock) (.slice Ao88 x242001_12.length co88) x242001_12) := ⟨h2_⟩
                    have n3_ : Aside0 (w94.heap[gb241]? = some (.cells #[.int .i64 4, .slice Ao88 x242001_12.length co88] 30 (0, 0))) := ⟨h3_⟩
                    have n4_ : Aside0 (w94.heap[gb256]? = some (.cells #[.int .i64 0, .slice none 0 0] 27 (0, 0))) := ⟨h4_⟩
                    have n5_ : Aside0 (w.heap.size ≤ gb256) := ⟨h5_⟩
                    have n6_ : Aside0 (w.heap.size ≤ gb256) := ⟨h6_⟩
                    have n7_ : Aside0 (gb241 ≠ gb256) := ⟨h7_⟩
                    have n8_ : Aside0 (gb256 ≠ gb241) := ⟨h8_⟩
                    have n9_ : Aside0 (Below w.heap.size w w94) := ⟨h9_⟩
                    clear HO_12
                    clear HO_242001
                    clear BK241
                    clear HB
                    clear h0_ h1_ h2_ h3_ h4_ h5_ h6_ h7_ h8_ h9_
                    have HO254 := n0_
                    have HO_12 := n1_
                    have HO_242001 := n2_
                    have BK241 := n3_
                    have BK256 := n4_
                    have GW256 := n5_
                    have GE256 := n6_
                    have NB241_256 := n7_
                    have NB256_241 := n8_
                    have HB := n9_
                    clear n0_ n1_ n2_ n3_ n4_ n5_ n6_ n7_ n8_ n9_
                    have hHeld : w94.cell? ⟨gb241, 0, none⟩ = some (.int .i64 4) ∧ w94.cell? ⟨gb241, 1, none⟩ = some (.slice Ao88 x242001_12.length co88) := hS_
                    obtain ⟨Ao96, co96, eo96⟩ := Kd.R_slice HO254.out
                    (first | subst eo96 | (injection eo96 with f1_ f2_ f3_; have f4_ := f1_.symm; have f5_ := f3_.symm; clear f1_ f2_ f3_; subst f4_; subst f5_))
                    refine norm_ (a' := ?_) ?_ ?_
                    rotate_left
                    · simp only [putAll, Act.put, List.setIfInBounds_toArray, List.set_cons_zero, List.set_cons_succ]
                      rfl
                    refine one_ (i := 9) (N := none) #[true, true, true, true, true, true, true, true, true, true, false] rfl rfl (one_of HT_.out (by kernel_rfl)) (by decide) (fun K hK => ?_)
                    have hs95 : w94.cell? ⟨gb256, 0, none⟩ = some (.int .i64 0) := (blk_cell BK256.out 0).trans rfl
                    have hfs95 := blk_frozen BK256.out 0
                    have hns95_0 := NB241_256.out
                    have hms95_0 := NB256_241.out
                    have hs97 : w94.cell? ⟨gb256, 1, none⟩ = some (.slice none 0 0) := (blk_cell BK256.out 1).trans rfl
                    have hfs97 := blk_frozen BK256.out 1
                    have hns97_0 := NB241_256.out
                    have hms97_0 := NB256_241.out
                    refine skip_ (w1 := ?_) (by rfl) rfl ?_ ?_
                    rotate_left
                    · go_simp
                      rfl
                    refine hK.out _ _ ⟨((cell_far (p := ⟨gb256, _, none⟩) NB241_256.out _).trans (((cell_far (p := ⟨gb256, _, none⟩) NB241_256.out _).trans (hHeld.1)))), ((cell_far (p := ⟨gb256, _, none⟩) NB241_256.out _).trans (((cell_far (p := ⟨gb256, _, none⟩) NB241_256.out _).trans (hHeld.2))))⟩ (fun hHeld => ?_)
                    clear hK K
                    refine pure_ (i := 10) (N := some 15) (v := ?_) (a' := ?_) #[true, true, true, true, true, true, true, true, true, true, true] rfl rfl (any_of HT_.out (by kernel_rfl)) (fun _ _ _ h => h) (Or.inl ⟨by rfl, ?_⟩) ?_ ?_
                    rotate_left
                    · intro w'
                      go_simp
                      with_reducible rfl
                    rotate_left
                    · simp only [Act.put, List.setIfInBounds_toArray, List.set_cons_zero, List.set_cons_succ, i64_w, i32_w]
                      rfl
                    refine done_ (done_of HT_.out (by kernel_rfl)) ?_
                    try go_wp2
                    go_ret
                    exact ⟨by first | rfl | (simp [errW_none, errW_some] <;> rfl) | (simp only [← hji12]; first | rfl | (simp [errW_none, errW_some] <;> rfl)) | (simp [*, errW_none, errW_some] <;> rfl), by repeat (first | (with_reducible first | exact HB.out | apply below_alloc | apply pw_below_drewN | apply below_drew1 | refine below_set ?_ GE241.out | refine below_set ?_ GE256.out) | exact HB.out)⟩
  · replace c6 := Bool.eq_false_iff.mpr c6
    subst c6
    have H1 : (some false) = some r := by rw [if_neg (show ¬ (false = true) by decide)] at H; exact H
    clear H
    have H := H1
    clear H1
    obtain rfl := Option.some.inj H
    go_enter Try.func11, Try.ntmps11
    go_wp2_with (first | ((with_reducible refine gate_callee (f := 17) rfl ?_); refine goesL_ (some 16) rfl rfl Try.func17 (by kernel_rfl) rfl #[] rfl (by (try simp only [List.map_toArray, List.map_cons, List.map_nil]); first | done | rfl | (simp only [List.length_drop, List.length_take]; rfl)) ?_; (with_reducible refine (interlocutorlaw8_known.calls  false _ A5.out).mono ?_); rintro e w98 ⟨rfl, hb⟩; refine ⟨_, rfl, ?_⟩; have n0_ := Aside0.mk (below_step (by repeat (first | (with_reducible first | exact HB.out | apply below_alloc | apply pw_below_drewN | apply below_drew1) | exact HB.out)) hb); clear HB; have HB := n0_; clear n0_; (try clear hb); (try clear hb2); (try clear hk); (try clear hi)))
    go_ret
    exact ⟨by first | rfl | (simp [errW_none, errW_some] <;> rfl) | (simp [*, errW_none, errW_some] <;> rfl), by repeat (first | (with_reducible first | exact HB.out | apply below_alloc | apply pw_below_drewN | apply below_drew1) | exact HB.out)⟩

/-- THE ONE PURE STATEMENT of interlocutorlaw8_ActHalves: yours. -/
def interlocutorlaw8_ActHalves.Pure : Prop := ∀ (a0 : Int) (a1 : Int) (a2 : Bool) (a3 : Bool), (Lit.int .i64 a0).wf = true → (Lit.int .i64 a1).wf = true → ∃ k, interlocutorlaw8_ActHalves.f k a0 a1 a2 a3 = some true
theorem interlocutorlaw8_ActHalves.walk (P : interlocutorlaw8_ActHalves.Pure) (a0 : Int) (a1 : Int) (a2 : Bool) (a3 : Bool) (w : World) (w0 : (Lit.int .i64 a0).wf = true) (w1 : (Lit.int .i64 a1).wf = true) :
    Calls Try.prog 11 #[.int .i64 a0, .int .i64 a1, .bool a2, .bool a3] w fun e w' => e = .returned (.bool true) ∧ Below w.heap.size w w' := by
  obtain ⟨k, h⟩ := P a0 a1 a2 a3 w0 w1
  refine (interlocutorlaw8_ActHalves.calls k a0 a1 a2 a3 true w h).mono ?_
  rintro e w' ⟨rfl, hd⟩
  exact ⟨rfl, hd⟩

end Go.Proofs.Ytldfljlklfhjkaa.PHf
