/- Each call of a function that is printed here answers what its plain Lean function answers; written by a program of this session (wip/myprint.py) over the kit's print. Conditions: that the plain function answers. -/
import Derived.Test.YtldfljlklfhjkaaPMvx0
import Derived.Test.YtldfljlklfhjkaaPMvx11
import Derived.Test.YtldfljlklfhjkaaPMvx12
import Derived.Test.YtldfljlklfhjkaaPMvx13
namespace Go.Proofs.Ytldfljlklfhjkaa.PMv
open Go.RowKit Go.Proofs.YtldfljlklfhjkaaW.PrintWords Go.Proofs.YtldfljlklfhjkaaW.PrintLast Go.Proofs.YtldfljlklfhjkaaW.PrintMore
attribute [local go_sem] max2_int min2_int max_two min_two max_three min_three max_four min_four   -- for this text's walks alone
set_option linter.unusedVariables false
set_option linter.unusedSimpArgs false

/-! ### interlocutorlaw8_ActMoves: function 6 -/
mutual
def interlocutorlaw8_ActMoves.j0 : Nat → Int → Int → Int → Int → Int → Int → Int → Int → Int → Option (Bool)
  | 0, _, _, _, _, _, _, _, _, _ => none
  | k + 1, x10, x11, x12, x234000, x234001, x234002, x234003, x234004, x234005 => (act_Do.f k 6 (([0, 1, 2] : List Int)) (([(⟨1, (([x10, 3] : List Int))⟩ : S27), (⟨2, (([x11] : List Int))⟩ : S27), (⟨2, (([x12] : List Int))⟩ : S27)] : List (S27))) x234000 x234001 x234002 x234003 x234004 x234005).bind fun bt251 => (if x11 = 1 then (interlocutorlaw8_ActMoves.j1 k bt251.2.2 0 (wrap64 (x10 * x12)) x234000 x234001 x234002 x234003 x234004 x234005 bt251.1 bt251.2.1) else (if x11 = 2 then (interlocutorlaw8_ActMoves.j1 k bt251.2.2 0 (wrap64 ((wrap64 (7 * x10)) * x12)) x234000 x234001 x234002 x234003 x234004 x234005 bt251.1 bt251.2.1) else (if x11 = 3 then (interlocutorlaw8_ActMoves.j1 k bt251.2.2 (wrap64 (x10 * x12)) 0 x234000 x234001 x234002 x234003 x234004 x234005 bt251.1 bt251.2.1) else (if x11 = 4 then (interlocutorlaw8_ActMoves.j1 k bt251.2.2 (wrap64 ((wrap64 (12 * x10)) * x12)) 0 x234000 x234001 x234002 x234003 x234004 x234005 bt251.1 bt251.2.1) else (interlocutorlaw8_ActMoves.j1 k bt251.2.2 0 0 x234000 x234001 x234002 x234003 x234004 x234005 bt251.1 bt251.2.1)))))
def interlocutorlaw8_ActMoves.j1 : Nat → Bool → Int → Int → Int → Int → Int → Int → Int → Int → Int → List Int → Option (Bool)
  | 0, _, _, _, _, _, _, _, _, _, _, _ => none
  | k + 1, x14, x15, x16, x234000, x234001, x234002, x234003, x234004, x234005, x257000, x257001 => (interlocutorref1_Add.f k x234000 x234001 x234002 x15 x16).bind fun bt257 => (if (x14 != bt257.2.2.2) = true then (some false) else (if x14 = true then (if x257000 = 4 then (if (x257001.length : Int) = 3 then (if 0 < (x257001.length : Int) then (if (rd x257001 0) = bt257.1 then (if 1 < (x257001.length : Int) then (if (rd x257001 1) = bt257.2.1 then (if 2 < (x257001.length : Int) then (some ((rd x257001 2) == bt257.2.2.1)) else (none)) else (some false)) else (none)) else (some false)) else (none)) else (some false)) else (some false)) else (some true)))
end
def interlocutorlaw8_ActMoves.f (k : Nat) (a0 : Int) (a1 : Int) (a2 : Bool) (a3 : Int) : Option (Bool) := (interlocutorlaw8_known.f).bind fun t226 => (if t226 = true then ((interlocutorlaw8_Ref.f a3).bind fun bt227 => ((interlocutorlaw8_within.f a0 400).bind fun t234 => ((interlocutorlaw8_within.f a1 4).bind fun t235 => (if a2 = true then (interlocutorlaw8_ActMoves.j0 k t234 (wrap64 (1 + t235)) (-1) bt227.1 bt227.2.1 bt227.2.2.1 bt227.2.2.2.1 bt227.2.2.2.2.1 bt227.2.2.2.2.2) else (interlocutorlaw8_ActMoves.j0 k t234 (wrap64 (1 + t235)) 1 bt227.1 bt227.2.1 bt227.2.2.1 bt227.2.2.2.1 bt227.2.2.2.2.1 bt227.2.2.2.2.2))))) else (some false))
theorem interlocutorlaw8_ActMoves.mono_l : ∀ k, (∀ y0 y1 y2 y3 y4 y5 y6 y7 y8, LeO (interlocutorlaw8_ActMoves.j0 k y0 y1 y2 y3 y4 y5 y6 y7 y8) (interlocutorlaw8_ActMoves.j0 (k + 1) y0 y1 y2 y3 y4 y5 y6 y7 y8)) ∧ (∀ y0 y1 y2 y3 y4 y5 y6 y7 y8 y9 y10, LeO (interlocutorlaw8_ActMoves.j1 k y0 y1 y2 y3 y4 y5 y6 y7 y8 y9 y10) (interlocutorlaw8_ActMoves.j1 (k + 1) y0 y1 y2 y3 y4 y5 y6 y7 y8 y9 y10))
  | 0 => ⟨fun _ _ _ _ _ _ _ _ _ r h => by simp [interlocutorlaw8_ActMoves.j0] at h, fun _ _ _ _ _ _ _ _ _ _ _ r h => by simp [interlocutorlaw8_ActMoves.j1] at h⟩
  | k + 1 => by
    obtain ⟨ih0, ih1⟩ := interlocutorlaw8_ActMoves.mono_l k
    refine ⟨?_, ?_⟩
    · intro y0 y1 y2 y3 y4 y5 y6 y7 y8
      unfold interlocutorlaw8_ActMoves.j0
      repeat' first
      | (with_reducible exact ih0 _ _ _ _ _ _ _ _ _)
      | (with_reducible exact ih1 _ _ _ _ _ _ _ _ _ _ _)
      | (with_reducible exact act_Do.mono _ _ _ _ _ _ _ _ _ _)
      | (with_reducible exact interlocutorref1_Add.mono _ _ _ _ _ _)
      | (with_reducible exact LeO.refl _)
      | (with_reducible exact LeO.none _)
      | (with_reducible refine LeO.ite ?_ ?_)
      | (with_reducible refine LeO.bind ?_ (fun _ => ?_))
      | exact ih0 _ _ _ _ _ _ _ _ _
      | exact ih1 _ _ _ _ _ _ _ _ _ _ _
      | exact act_Do.mono _ _ _ _ _ _ _ _ _ _
      | exact interlocutorref1_Add.mono _ _ _ _ _ _
      | exact LeO.none _
      | refine LeO.ite ?_ ?_
      | refine LeO.bind ?_ (fun _ => ?_)
    · intro y0 y1 y2 y3 y4 y5 y6 y7 y8 y9 y10
      unfold interlocutorlaw8_ActMoves.j1
      repeat' first
      | (with_reducible exact ih0 _ _ _ _ _ _ _ _ _)
      | (with_reducible exact ih1 _ _ _ _ _ _ _ _ _ _ _)
      | (with_reducible exact act_Do.mono _ _ _ _ _ _ _ _ _ _)
      | (with_reducible exact interlocutorref1_Add.mono _ _ _ _ _ _)
      | (with_reducible exact LeO.refl _)
      | (with_reducible exact LeO.none _)
      | (with_reducible refine LeO.ite ?_ ?_)
      | (with_reducible refine LeO.bind ?_ (fun _ => ?_))
      | exact ih0 _ _ _ _ _ _ _ _ _
      | exact ih1 _ _ _ _ _ _ _ _ _ _ _
      | exact act_Do.mono _ _ _ _ _ _ _ _ _ _
      | exact interlocutorref1_Add.mono _ _ _ _ _ _
      | exact LeO.none _
      | refine LeO.ite ?_ ?_
      | refine LeO.bind ?_ (fun _ => ?_)
theorem interlocutorlaw8_ActMoves.mono : ∀ a0 a1 a2 a3 k, LeO (interlocutorlaw8_ActMoves.f k a0 a1 a2 a3) (interlocutorlaw8_ActMoves.f (k + 1) a0 a1 a2 a3) := by
  intro a0 a1 a2 a3 k
  obtain ⟨ih0, ih1⟩ := interlocutorlaw8_ActMoves.mono_l k
  unfold interlocutorlaw8_ActMoves.f
  repeat' first
      | (with_reducible exact ih0 _ _ _ _ _ _ _ _ _)
      | (with_reducible exact ih1 _ _ _ _ _ _ _ _ _ _ _)
      | (with_reducible exact act_Do.mono _ _ _ _ _ _ _ _ _ _)
      | (with_reducible exact interlocutorref1_Add.mono _ _ _ _ _ _)
      | (with_reducible exact LeO.refl _)
      | (with_reducible exact LeO.none _)
      | (with_reducible refine LeO.ite ?_ ?_)
      | (with_reducible refine LeO.bind ?_ (fun _ => ?_))
      | exact ih0 _ _ _ _ _ _ _ _ _
      | exact ih1 _ _ _ _ _ _ _ _ _ _ _
      | exact act_Do.mono _ _ _ _ _ _ _ _ _ _
      | exact interlocutorref1_Add.mono _ _ _ _ _ _
      | exact LeO.none _
      | refine LeO.ite ?_ ?_
      | refine LeO.bind ?_ (fun _ => ?_)
set_option maxHeartbeats 8000000 in
set_option maxRecDepth 100000 in
theorem interlocutorlaw8_ActMoves.calls (k : Nat) (a0 : Int) (a1 : Int) (a2 : Bool) (a3 : Int) (r : Bool) (w : World) (h : interlocutorlaw8_ActMoves.f k a0 a1 a2 a3 = some r) :
    Calls Try.prog 6 #[.int .i64 a0, .int .i64 a1, .bool a2, .int .i64 a3] w fun e w' => e = .returned (.bool r) ∧ Below w.heap.size w w' := by
  have hu32 := Try.underlying32
  have hu30 := Try.underlying30
  have hu27 := Try.underlying27
  have HB := Aside0.mk (Below.refl w.heap.size w)
  have H : ((interlocutorlaw8_known.f).bind fun t226 => (if t226 = true then ((interlocutorlaw8_Ref.f a3).bind fun bt227 => ((interlocutorlaw8_within.f a0 400).bind fun t234 => ((interlocutorlaw8_within.f a1 4).bind fun t235 => (if a2 = true then (interlocutorlaw8_ActMoves.j0 k t234 (wrap64 (1 + t235)) (-1) bt227.1 bt227.2.1 bt227.2.2.1 bt227.2.2.2.1 bt227.2.2.2.2.1 bt227.2.2.2.2.2) else (interlocutorlaw8_ActMoves.j0 k t234 (wrap64 (1 + t235)) 1 bt227.1 bt227.2.1 bt227.2.2.1 bt227.2.2.2.1 bt227.2.2.2.2.1 bt227.2.2.2.2.2))))) else (some false))) = some r := h
  clear h
  replace H := Option.bind_eq_some_iff.mp H
  obtain ⟨t226, A50, H⟩ := H
  replace H : (if t226 = true then ((interlocutorlaw8_Ref.f a3).bind fun bt227 => ((interlocutorlaw8_within.f a0 400).bind fun t234 => ((interlocutorlaw8_within.f a1 4).bind fun t235 => (if a2 = true then (interlocutorlaw8_ActMoves.j0 k t234 (wrap64 (1 + t235)) (-1) bt227.1 bt227.2.1 bt227.2.2.1 bt227.2.2.2.1 bt227.2.2.2.2.1 bt227.2.2.2.2.2) else (interlocutorlaw8_ActMoves.j0 k t234 (wrap64 (1 + t235)) 1 bt227.1 bt227.2.1 bt227.2.2.1 bt227.2.2.2.1 bt227.2.2.2.2.1 bt227.2.2.2.2.2))))) else (some false)) = some r := H
  have A5 := Aside0.mk A50
  clear A50
  by_cases c6 : t226 = true
  · subst c6
    have H1 : ((interlocutorlaw8_Ref.f a3).bind fun bt227 => ((interlocutorlaw8_within.f a0 400).bind fun t234 => ((interlocutorlaw8_within.f a1 4).bind fun t235 => (if a2 = true then (interlocutorlaw8_ActMoves.j0 k t234 (wrap64 (1 + t235)) (-1) bt227.1 bt227.2.1 bt227.2.2.1 bt227.2.2.2.1 bt227.2.2.2.2.1 bt227.2.2.2.2.2) else (interlocutorlaw8_ActMoves.j0 k t234 (wrap64 (1 + t235)) 1 bt227.1 bt227.2.1 bt227.2.2.1 bt227.2.2.2.1 bt227.2.2.2.2.1 bt227.2.2.2.2.2))))) = some r := by rw [if_pos rfl] at H; exact H
    clear H
    have H := H1
    clear H1
    replace H := Option.bind_eq_some_iff.mp H
    obtain ⟨⟨t227, t228, t229, t230, t231, t232⟩, A70, H⟩ := H
    replace H : ((interlocutorlaw8_within.f a0 400).bind fun t234 => ((interlocutorlaw8_within.f a1 4).bind fun t235 => (if a2 = true then (interlocutorlaw8_ActMoves.j0 k t234 (wrap64 (1 + t235)) (-1) t227 t228 t229 t230 t231 t232) else (interlocutorlaw8_ActMoves.j0 k t234 (wrap64 (1 + t235)) 1 t227 t228 t229 t230 t231 t232)))) = some r := H
    have A7 := Aside0.mk A70
    clear A70
    replace H := Option.bind_eq_some_iff.mp H
    obtain ⟨t234, A80, H⟩ := H
    replace H : ((interlocutorlaw8_within.f a1 4).bind fun t235 => (if a2 = true then (interlocutorlaw8_ActMoves.j0 k t234 (wrap64 (1 + t235)) (-1) t227 t228 t229 t230 t231 t232) else (interlocutorlaw8_ActMoves.j0 k t234 (wrap64 (1 + t235)) 1 t227 t228 t229 t230 t231 t232))) = some r := H
    have A8 := Aside0.mk A80
    clear A80
    replace H := Option.bind_eq_some_iff.mp H
    obtain ⟨t235, A90, H⟩ := H
    replace H : (if a2 = true then (interlocutorlaw8_ActMoves.j0 k t234 (wrap64 (1 + t235)) (-1) t227 t228 t229 t230 t231 t232) else (interlocutorlaw8_ActMoves.j0 k t234 (wrap64 (1 + t235)) 1 t227 t228 t229 t230 t231 t232)) = some r := H
    have A9 := Aside0.mk A90
    clear A90
    have HC10 := Aside0.mk H
    clear H
    go_enter Try.func6, Try.ntmps6
    go_upto_if 30 with (first | ((with_reducible refine gate_callee (f := 17) rfl ?_); refine goesL_ (some 21) rfl rfl Try.func17 (by kernel_rfl) rfl #[] rfl (by (try simp only [List.map_toArray, List.map_cons, List.map_nil]); first | done | rfl | (simp only [List.length_drop, List.length_take]; rfl)) ?_; (with_reducible refine (interlocutorlaw8_known.calls  true _ A5.out).mono ?_); rintro e w11 ⟨rfl, hb⟩; refine ⟨_, rfl, ?_⟩; have n0_ := Aside0.mk (below_step (by repeat (first | (with_reducible first | exact HB.out | apply below_alloc | apply pw_below_drewN | apply below_drew1) | exact HB.out)) hb); clear HB; have HB := n0_; clear n0_; (try clear hb); (try clear hb2); (try clear hk); (try clear hi)) | ((with_reducible refine gate_callee (f := 21) rfl ?_); refine goesL_ (some 24) rfl rfl Try.func21 (by kernel_rfl) rfl #[.int .i64 a3] rfl (by (try simp only [List.map_toArray, List.map_cons, List.map_nil]); first | done | rfl | (simp only [List.length_drop, List.length_take]; rfl)) ?_; (with_reducible refine (interlocutorlaw8_Ref.calls a3 t227 t228 t229 t230 t231 t232 _ A7.out).mono ?_); rintro e w12 ⟨rfl, hb⟩; refine ⟨_, rfl, ?_⟩; have n0_ := Aside0.mk (below_step (by repeat (first | (with_reducible first | exact HB.out | apply below_alloc | apply pw_below_drewN | apply below_drew1) | exact HB.out)) hb); clear HB; have HB := n0_; clear n0_; (try clear hb); (try clear hb2); (try clear hk); (try clear hi)) | ((with_reducible refine gate_dst (N := 9) rfl ?_); (try (refine gate_guard (by rfl) ?_; dsimp only)); refine box_event ?hg (N := 9) ?hd (cs := #[.int .i64 0, .int .i64 0, .int .i64 0, .int .i64 0, .int .i64 0, .int .i64 0]) (t := 32) ?hr ?_; (case hd => rfl); (case hg => rfl); (case hr => first | (go_simp; done) | (go_simp; rfl)); intro gb233 hg w13 hbox hb; have n0_ := Aside0.mk (below_step (by repeat (first | (with_reducible first | exact HB.out | apply below_alloc | apply pw_below_drewN | apply below_drew1) | exact HB.out)) hb); have n1_ := Aside0.mk (hbox); have n2_ := Aside0.mk ((by rw [hg]; exact (below_size (by repeat (first | (with_reducible first | exact HB.out | apply below_alloc | apply pw_below_drewN | apply below_drew1) | exact HB.out))) : w.heap.size ≤ gb233)); have n3_ := Aside0.mk ((by rw [hg]; exact (below_size (by repeat (first | (with_reducible first | exact HB.out | apply below_alloc | apply pw_below_drewN | apply below_drew1) | exact HB.out))) : w.heap.size ≤ gb233)); clear HB; have HB := n0_; have BK233 := n1_; have GW233 := n2_; have GE233 := n3_; clear n0_ n1_ n2_ n3_; clear hb hbox hg; have hcz14_0 : w13.cell? ⟨gb233, 0, none⟩ = some (.int .i64 0) := (blk_cell BK233.out 0).trans rfl; have hcz14_1 : w13.cell? ⟨gb233, 1, none⟩ = some (.int .i64 0) := (blk_cell BK233.out 1).trans rfl; have hcz14_2 : w13.cell? ⟨gb233, 2, none⟩ = some (.int .i64 0) := (blk_cell BK233.out 2).trans rfl; have hcz14_3 : w13.cell? ⟨gb233, 3, none⟩ = some (.int .i64 0) := (blk_cell BK233.out 3).trans rfl; have hcz14_4 : w13.cell? ⟨gb233, 4, none⟩ = some (.int .i64 0) := (blk_cell BK233.out 4).trans rfl; have hcz14_5 : w13.cell? ⟨gb233, 5, none⟩ = some (.int .i64 0) := (blk_cell BK233.out 5).trans rfl; have hfz14_0 := blk_frozen BK233.out 0; have hfz14_1 := blk_frozen BK233.out 1; have hfz14_2 := blk_frozen BK233.out 2; have hfz14_3 := blk_frozen BK233.out 3; have hfz14_4 := blk_frozen BK233.out 4; have hfz14_5 := blk_frozen BK233.out 5) | ((with_reducible refine gate_callee (f := 18) rfl ?_); refine goesL_ (some 26) rfl rfl Try.func18 (by kernel_rfl) rfl #[.int .i64 a0, .int .i64 400] rfl (by (try simp only [List.map_toArray, List.map_cons, List.map_nil]); first | done | rfl | (simp only [List.length_drop, List.length_take]; rfl)) ?_; (with_reducible refine (interlocutorlaw8_within.calls a0 400 t234 _ A8.out).mono ?_); rintro e w' ⟨rfl, ⟨nd, rfl⟩⟩; refine ⟨_, rfl, ?_⟩) | ((with_reducible refine gate_callee (f := 18) rfl ?_); refine goesL_ (some 28) rfl rfl Try.func18 (by kernel_rfl) rfl #[.int .i64 a1, .int .i64 4] rfl (by (try simp only [List.map_toArray, List.map_cons, List.map_nil]); first | done | rfl | (simp only [List.length_drop, List.length_take]; rfl)) ?_; (with_reducible refine (interlocutorlaw8_within.calls a1 4 t235 _ A9.out).mono ?_); rintro e w' ⟨rfl, ⟨nd, rfl⟩⟩; refine ⟨_, rfl, ?_⟩))
    (try simp only [Act.put, List.setIfInBounds_toArray, List.set_cons_zero, List.set_cons_succ])
    go_cut [12] (fun v12 wc => ∃ (kq : Nat) (x12_9 : Int), v12 = .int .i64 x12_9 ∧ Aside0 (interlocutorlaw8_ActMoves.j0 kq t234 (wrap64 (1 + t235)) x12_9 t227 t228 t229 t230 t231 t232 = some r) ∧ Aside0 (kq ≤ k) ∧ Aside0 (wc.heap[gb233]? = some (.cells #[.int .i64 t227, .int .i64 t228, .int .i64 t229, .int .i64 t230, .int .i64 t231, .int .i64 t232] 32 (0, 0))) ∧ Aside0 (Below w.heap.size w wc))
    case first =>
      have H := HC10.out
      clear HC10
      by_cases c15 : a2 = true
      · subst c15
        have H1 : (interlocutorlaw8_ActMoves.j0 k t234 (wrap64 (1 + t235)) (-1) t227 t228 t229 t230 t231 t232) = some r := by rw [if_pos rfl] at H; exact H
        clear H
        have H := H1
        clear H1
        have H' := Aside0.mk H
        clear H
        go_wp2
        go_meet
        case rel => exact ⟨_, ((-1)), (by first | rfl | (simp; done) | (simp [*]; done)), H', ⟨by first | omega | exact Nat.le_refl _⟩, ⟨by (with_reducible repeat (first | refine blk_drewN ?_ _ | refine blk_drew ?_ | refine blk_alloc ?_ _)); refine blk_put (cs := #[.int .i64 t227, .int .i64 t228, .int .i64 t229, .int .i64 t230, .int .i64 t231, .int .i64 0]) ?_ 5 _ rfl; (with_reducible repeat (first | refine blk_drewN ?_ _ | refine blk_drew ?_ | refine blk_alloc ?_ _)); refine blk_put (cs := #[.int .i64 t227, .int .i64 t228, .int .i64 t229, .int .i64 t230, .int .i64 0, .int .i64 0]) ?_ 4 _ rfl; (with_reducible repeat (first | refine blk_drewN ?_ _ | refine blk_drew ?_ | refine blk_alloc ?_ _)); refine blk_put (cs := #[.int .i64 t227, .int .i64 t228, .int .i64 t229, .int .i64 0, .int .i64 0, .int .i64 0]) ?_ 3 _ rfl; (with_reducible repeat (first | refine blk_drewN ?_ _ | refine blk_drew ?_ | refine blk_alloc ?_ _)); refine blk_put (cs := #[.int .i64 t227, .int .i64 t228, .int .i64 0, .int .i64 0, .int .i64 0, .int .i64 0]) ?_ 2 _ rfl; (with_reducible repeat (first | refine blk_drewN ?_ _ | refine blk_drew ?_ | refine blk_alloc ?_ _)); refine blk_put (cs := #[.int .i64 t227, .int .i64 0, .int .i64 0, .int .i64 0, .int .i64 0, .int .i64 0]) ?_ 1 _ rfl; (with_reducible repeat (first | refine blk_drewN ?_ _ | refine blk_drew ?_ | refine blk_alloc ?_ _)); refine blk_put (cs := #[.int .i64 0, .int .i64 0, .int .i64 0, .int .i64 0, .int .i64 0, .int .i64 0]) ?_ 0 _ rfl; (with_reducible repeat (first | refine blk_drewN ?_ _ | refine blk_drew ?_ | refine blk_alloc ?_ _)); exact BK233.out⟩, ⟨by repeat (first | (with_reducible first | exact HB.out | apply below_alloc | apply pw_below_drewN | apply below_drew1 | refine below_set ?_ GE233.out) | exact HB.out)⟩⟩
      · replace c15 := Bool.eq_false_iff.mpr c15
        subst c15
        have H1 : (interlocutorlaw8_ActMoves.j0 k t234 (wrap64 (1 + t235)) 1 t227 t228 t229 t230 t231 t232) = some r := by rw [if_neg (show ¬ (false = true) by decide)] at H; exact H
        clear H
        have H := H1
        clear H1
        have H' := Aside0.mk H
        clear H
        go_wp2
        go_meet
        case rel => exact ⟨_, (1), (by first | rfl | (simp; done) | (simp [*]; done)), H', ⟨by first | omega | exact Nat.le_refl _⟩, ⟨by (with_reducible repeat (first | refine blk_drewN ?_ _ | refine blk_drew ?_ | refine blk_alloc ?_ _)); refine blk_put (cs := #[.int .i64 t227, .int .i64 t228, .int .i64 t229, .int .i64 t230, .int .i64 t231, .int .i64 0]) ?_ 5 _ rfl; (with_reducible repeat (first | refine blk_drewN ?_ _ | refine blk_drew ?_ | refine blk_alloc ?_ _)); refine blk_put (cs := #[.int .i64 t227, .int .i64 t228, .int .i64 t229, .int .i64 t230, .int .i64 0, .int .i64 0]) ?_ 4 _ rfl; (with_reducible repeat (first | refine blk_drewN ?_ _ | refine blk_drew ?_ | refine blk_alloc ?_ _)); refine blk_put (cs := #[.int .i64 t227, .int .i64 t228, .int .i64 t229, .int .i64 0, .int .i64 0, .int .i64 0]) ?_ 3 _ rfl; (with_reducible repeat (first | refine blk_drewN ?_ _ | refine blk_drew ?_ | refine blk_alloc ?_ _)); refine blk_put (cs := #[.int .i64 t227, .int .i64 t228, .int .i64 0, .int .i64 0, .int .i64 0, .int .i64 0]) ?_ 2 _ rfl; (with_reducible repeat (first | refine blk_drewN ?_ _ | refine blk_drew ?_ | refine blk_alloc ?_ _)); refine blk_put (cs := #[.int .i64 t227, .int .i64 0, .int .i64 0, .int .i64 0, .int .i64 0, .int .i64 0]) ?_ 1 _ rfl; (with_reducible repeat (first | refine blk_drewN ?_ _ | refine blk_drew ?_ | refine blk_alloc ?_ _)); refine blk_put (cs := #[.int .i64 0, .int .i64 0, .int .i64 0, .int .i64 0, .int .i64 0, .int .i64 0]) ?_ 0 _ rfl; (with_reducible repeat (first | refine blk_drewN ?_ _ | refine blk_drew ?_ | refine blk_alloc ?_ _)); exact BK233.out⟩, ⟨by repeat (first | (with_reducible first | exact HB.out | apply below_alloc | apply pw_below_drewN | apply below_drew1 | refine below_set ?_ GE233.out) | exact HB.out)⟩⟩
    case rest =>
      clear HC10
      try clear c1
      try clear c2
      try clear p2
      try clear c6
      try clear p6
      try clear c15
      try clear hcz14_0
      try clear hcz14_1
      try clear hcz14_2
      try clear hcz14_3
      try clear hcz14_4
      try clear hcz14_5
      try clear hfz14_0
      try clear hfz14_1
      try clear hfz14_2
      try clear hfz14_3
      try clear hfz14_4
      try clear hfz14_5
      obtain ⟨kq, x12_9, rfl, HA, HJ9, BK233, HB⟩ := hcut
      cases kq with
      | zero => exact absurd HA.out (by simp [interlocutorlaw8_ActMoves.j0])
      | succ kj9 =>
        have H := HA.out
        clear HA
        simp only [interlocutorlaw8_ActMoves.j0] at H
        obtain ⟨y236, hy236⟩ : ∃ y_ : List Int, y_ = (([0, 1, 2] : List Int)) := ⟨_, rfl⟩
        replace H : ((act_Do.f kj9 6 y236 (([(⟨1, (([t234, 3] : List Int))⟩ : S27), (⟨2, (([(wrap64 (1 + t235))] : List Int))⟩ : S27), (⟨2, (([x12_9] : List Int))⟩ : S27)] : List (S27))) t227 t228 t229 t230 t231 t232).bind fun bt251 => (if (wrap64 (1 + t235)) = 1 then (interlocutorlaw8_ActMoves.j1 kj9 bt251.2.2 0 (wrap64 (t234 * x12_9)) t227 t228 t229 t230 t231 t232 bt251.1 bt251.2.1) else (if (wrap64 (1 + t235)) = 2 then (interlocutorlaw8_ActMoves.j1 kj9 bt251.2.2 0 (wrap64 ((wrap64 (7 * t234)) * x12_9)) t227 t228 t229 t230 t231 t232 bt251.1 bt251.2.1) else (if (wrap64 (1 + t235)) = 3 then (interlocutorlaw8_ActMoves.j1 kj9 bt251.2.2 (wrap64 (t234 * x12_9)) 0 t227 t228 t229 t230 t231 t232 bt251.1 bt251.2.1) else (if (wrap64 (1 + t235)) = 4 then (interlocutorlaw8_ActMoves.j1 kj9 bt251.2.2 (wrap64 ((wrap64 (12 * t234)) * x12_9)) 0 t227 t228 t229 t230 t231 t232 bt251.1 bt251.2.1) else (interlocutorlaw8_ActMoves.j1 kj9 bt251.2.2 0 0 t227 t228 t229 t230 t231 t232 bt251.1 bt251.2.1)))))) = some r := by first | (rw [hy236]; with_reducible exact H) | (have H2_ := (Option.bind_some _ _).symm.trans H; rw [hy236]; with_reducible exact H2_) | (have H2_ := (Option.bind_some _ _).symm.trans H; with_reducible exact H2_) | with_reducible exact H | (rw [hy236]; exact H) | exact H
        have Ny236 := Aside0.mk hy236
        clear hy236
        obtain ⟨y239, hy239⟩ : ∃ y_ : List Int, y_ = (([t234, 3] : List Int)) := ⟨_, rfl⟩
        replace H : ((act_Do.f kj9 6 y236 (([(⟨1, y239⟩ : S27), (⟨2, (([(wrap64 (1 + t235))] : List Int))⟩ : S27), (⟨2, (([x12_9] : List Int))⟩ : S27)] : List (S27))) t227 t228 t229 t230 t231 t232).bind fun bt251 => (if (wrap64 (1 + t235)) = 1 then (interlocutorlaw8_ActMoves.j1 kj9 bt251.2.2 0 (wrap64 (t234 * x12_9)) t227 t228 t229 t230 t231 t232 bt251.1 bt251.2.1) else (if (wrap64 (1 + t235)) = 2 then (interlocutorlaw8_ActMoves.j1 kj9 bt251.2.2 0 (wrap64 ((wrap64 (7 * t234)) * x12_9)) t227 t228 t229 t230 t231 t232 bt251.1 bt251.2.1) else (if (wrap64 (1 + t235)) = 3 then (interlocutorlaw8_ActMoves.j1 kj9 bt251.2.2 (wrap64 (t234 * x12_9)) 0 t227 t228 t229 t230 t231 t232 bt251.1 bt251.2.1) else (if (wrap64 (1 + t235)) = 4 then (interlocutorlaw8_ActMoves.j1 kj9 bt251.2.2 (wrap64 ((wrap64 (12 * t234)) * x12_9)) 0 t227 t228 t229 t230 t231 t232 bt251.1 bt251.2.1) else (interlocutorlaw8_ActMoves.j1 kj9 bt251.2.2 0 0 t227 t228 t229 t230 t231 t232 bt251.1 bt251.2.1)))))) = some r := by first | (rw [hy239]; with_reducible exact H) | (have H2_ := (Option.bind_some _ _).symm.trans H; rw [hy239]; with_reducible exact H2_) | (have H2_ := (Option.bind_some _ _).symm.trans H; with_reducible exact H2_) | with_reducible exact H | (rw [hy239]; exact H) | exact H
        have Ny239 := Aside0.mk hy239
        clear hy239
        obtain ⟨y242, hy242⟩ : ∃ y_ : List Int, y_ = (([(wrap64 (1 + t235))] : List Int)) := ⟨_, rfl⟩
        replace H : ((act_Do.f kj9 6 y236 (([(⟨1, y239⟩ : S27), (⟨2, y242⟩ : S27), (⟨2, (([x12_9] : List Int))⟩ : S27)] : List (S27))) t227 t228 t229 t230 t231 t232).bind fun bt251 => (if (wrap64 (1 + t235)) = 1 then (interlocutorlaw8_ActMoves.j1 kj9 bt251.2.2 0 (wrap64 (t234 * x12_9)) t227 t228 t229 t230 t231 t232 bt251.1 bt251.2.1) else (if (wrap64 (1 + t235)) = 2 then (interlocutorlaw8_ActMoves.j1 kj9 bt251.2.2 0 (wrap64 ((wrap64 (7 * t234)) * x12_9)) t227 t228 t229 t230 t231 t232 bt251.1 bt251.2.1) else (if (wrap64 (1 + t235)) = 3 then (interlocutorlaw8_ActMoves.j1 kj9 bt251.2.2 (wrap64 (t234 * x12_9)) 0 t227 t228 t229 t230 t231 t232 bt251.1 bt251.2.1) else (if (wrap64 (1 + t235)) = 4 then (interlocutorlaw8_ActMoves.j1 kj9 bt251.2.2 (wrap64 ((wrap64 (12 * t234)) * x12_9)) 0 t227 t228 t229 t230 t231 t232 bt251.1 bt251.2.1) else (interlocutorlaw8_ActMoves.j1 kj9 bt251.2.2 0 0 t227 t228 t229 t230 t231 t232 bt251.1 bt251.2.1)))))) = some r := by first | (rw [hy242]; with_reducible exact H) | (have H2_ := (Option.bind_some _ _).symm.trans H; rw [hy242]; with_reducible exact H2_) | (have H2_ := (Option.bind_some _ _).symm.trans H; with_reducible exact H2_) | with_reducible exact H | (rw [hy242]; exact H) | exact H
        have Ny242 := Aside0.mk hy242
        clear hy242
        obtain ⟨y245, hy245⟩ : ∃ y_ : List Int, y_ = (([x12_9] : List Int)) := ⟨_, rfl⟩
        replace H : ((act_Do.f kj9 6 y236 (([(⟨1, y239⟩ : S27), (⟨2, y242⟩ : S27), (⟨2, y245⟩ : S27)] : List (S27))) t227 t228 t229 t230 t231 t232).bind fun bt251 => (if (wrap64 (1 + t235)) = 1 then (interlocutorlaw8_ActMoves.j1 kj9 bt251.2.2 0 (wrap64 (t234 * x12_9)) t227 t228 t229 t230 t231 t232 bt251.1 bt251.2.1) else (if (wrap64 (1 + t235)) = 2 then (interlocutorlaw8_ActMoves.j1 kj9 bt251.2.2 0 (wrap64 ((wrap64 (7 * t234)) * x12_9)) t227 t228 t229 t230 t231 t232 bt251.1 bt251.2.1) else (if (wrap64 (1 + t235)) = 3 then (interlocutorlaw8_ActMoves.j1 kj9 bt251.2.2 (wrap64 (t234 * x12_9)) 0 t227 t228 t229 t230 t231 t232 bt251.1 bt251.2.1) else (if (wrap64 (1 + t235)) = 4 then (interlocutorlaw8_ActMoves.j1 kj9 bt251.2.2 (wrap64 ((wrap64 (12 * t234)) * x12_9)) 0 t227 t228 t229 t230 t231 t232 bt251.1 bt251.2.1) else (interlocutorlaw8_ActMoves.j1 kj9 bt251.2.2 0 0 t227 t228 t229 t230 t231 t232 bt251.1 bt251.2.1)))))) = some r := by first | (rw [hy245]; with_reducible exact H) | (have H2_ := (Option.bind_some _ _).symm.trans H; rw [hy245]; with_reducible exact H2_) | (have H2_ := (Option.bind_some _ _).symm.trans H; with_reducible exact H2_) | with_reducible exact H | (rw [hy245]; exact H) | exact H
        have Ny245 := Aside0.mk hy245
        clear hy245
        obtain ⟨y248, hy248⟩ : ∃ y_ : List (S27), y_ = (([(⟨1, y239⟩ : S27), (⟨2, y242⟩ : S27), (⟨2, y245⟩ : S27)] : List (S27))) := ⟨_, rfl⟩
        replace H : ((act_Do.f kj9 6 y236 y248 t227 t228 t229 t230 t231 t232).bind fun bt251 => (if (wrap64 (1 + t235)) = 1 then (interlocutorlaw8_ActMoves.j1 kj9 bt251.2.2 0 (wrap64 (t234 * x12_9)) t227 t228 t229 t230 t231 t232 bt251.1 bt251.2.1) else (if (wrap64 (1 + t235)) = 2 then (interlocutorlaw8_ActMoves.j1 kj9 bt251.2.2 0 (wrap64 ((wrap64 (7 * t234)) * x12_9)) t227 t228 t229 t230 t231 t232 bt251.1 bt251.2.1) else (if (wrap64 (1 + t235)) = 3 then (interlocutorlaw8_ActMoves.j1 kj9 bt251.2.2 (wrap64 (t234 * x12_9)) 0 t227 t228 t229 t230 t231 t232 bt251.1 bt251.2.1) else (if (wrap64 (1 + t235)) = 4 then (interlocutorlaw8_ActMoves.j1 kj9 bt251.2.2 (wrap64 ((wrap64 (12 * t234)) * x12_9)) 0 t227 t228 t229 t230 t231 t232 bt251.1 bt251.2.1) else (interlocutorlaw8_ActMoves.j1 kj9 bt251.2.2 0 0 t227 t228 t229 t230 t231 t232 bt251.1 bt251.2.1)))))) = some r := by first | (rw [hy248]; with_reducible exact H) | (have H2_ := (Option.bind_some _ _).symm.trans H; rw [hy248]; with_reducible exact H2_) | (have H2_ := (Option.bind_some _ _).symm.trans H; with_reducible exact H2_) | with_reducible exact H | (rw [hy248]; exact H) | exact H
        have Ny248 := Aside0.mk hy248
        clear hy248
        replace H := Option.bind_eq_some_iff.mp H
        obtain ⟨⟨t251, t252, t255⟩, A160, H⟩ := H
        replace H : (if (wrap64 (1 + t235)) = 1 then (interlocutorlaw8_ActMoves.j1 kj9 t255 0 (wrap64 (t234 * x12_9)) t227 t228 t229 t230 t231 t232 t251 t252) else (if (wrap64 (1 + t235)) = 2 then (interlocutorlaw8_ActMoves.j1 kj9 t255 0 (wrap64 ((wrap64 (7 * t234)) * x12_9)) t227 t228 t229 t230 t231 t232 t251 t252) else (if (wrap64 (1 + t235)) = 3 then (interlocutorlaw8_ActMoves.j1 kj9 t255 (wrap64 (t234 * x12_9)) 0 t227 t228 t229 t230 t231 t232 t251 t252) else (if (wrap64 (1 + t235)) = 4 then (interlocutorlaw8_ActMoves.j1 kj9 t255 (wrap64 ((wrap64 (12 * t234)) * x12_9)) 0 t227 t228 t229 t230 t231 t232 t251 t252) else (interlocutorlaw8_ActMoves.j1 kj9 t255 0 0 t227 t228 t229 t230 t231 t232 t251 t252))))) = some r := H
        have A16 := Aside0.mk A160
        clear A160
        have HC17 := Aside0.mk H
        clear H
        go_upto_block 0 with (first | ((with_reducible refine gate_dst (N := 32) rfl ?_); (try (refine gate_guard (by rfl) ?_; dsimp only)); refine Kd.R_lit (Kd.int .i64) _ 3 ?hg (N := 32) ?hd (xs := ([0, 1, 2] : List Int)) (inner := [.int .i64 0, .int .i64 1, .int .i64 2]) (ok := fun _ => True) (okp := fun _ => True) ?hr ?hp (fun _ hk => hk) trivial (Below.refl _ _) (Nat.le_refl _) (by simp) ?_; (case hd => rfl); (case hg => rfl); (case hr => first | (go_simp; done) | (go_simp; rfl)); (case hp => exact (Reps.one (show Kd.M (Kd.int .i64) _ _ _ 0 [.int .i64 0] from rfl) (Reps.one (show Kd.M (Kd.int .i64) _ _ _ 1 [.int .i64 1] from rfl) (Reps.one (show Kd.M (Kd.int .i64) _ _ _ 2 [.int .i64 2] from rfl) (Reps.none _ _))))); intro v237 w18 ho19 hb hg_ hnew_; clear hg_ hnew_; (first | rw [← Ny236.out] at ho19 | (simp only [Int.reduceToNat] at ho19; rw [← Ny236.out] at ho19)); have n0_ := Aside0.mk (Kd.R_lower ho19 (below_size (by repeat (first | (with_reducible first | exact HB.out | apply below_alloc | apply pw_below_drewN | apply below_drew1 | refine below_set ?_ GE233.out) | exact HB.out)))); have n1_ := Aside0.mk (blk_below (g := gb233) (o := .cells #[.int .i64 t227, .int .i64 t228, .int .i64 t229, .int .i64 t230, .int .i64 t231, .int .i64 t232] 32 (0, 0)) (by (with_reducible repeat (first | refine blk_drewN ?_ _ | refine blk_drew ?_ | refine blk_alloc ?_ _)); exact BK233.out) hb); have n2_ := Aside0.mk (below_step (by repeat (first | (with_reducible first | exact HB.out | apply below_alloc | apply pw_below_drewN | apply below_drew1 | refine below_set ?_ GE233.out) | exact HB.out)) hb); clear BK233; clear HB; have HO238 := n0_; have BK233 := n1_; have HB := n2_; clear n0_ n1_ n2_; clear hb ho19; obtain ⟨Ao20, co20, eo20⟩ := Kd.R_slice HO238.out; subst eo20) | ((with_reducible refine gate_dst (N := 35) rfl ?_); (try (refine gate_guard (by rfl) ?_; dsimp only)); refine Kd.R_lit (Kd.int .i64) _ 3 ?hg (N := 35) ?hd (xs := ([t234, 3] : List Int)) (inner := [.int .i64 t234, .int .i64 3]) (ok := fun _ => True) (okp := fun _ => True) ?hr ?hp (fun _ hk => hk) trivial (Below.refl _ _) (Nat.le_refl _) (by simp) ?_; (case hd => rfl); (case hg => rfl); (case hr => first | (go_simp; done) | (go_simp; rfl)); (case hp => exact (Reps.one (show Kd.M (Kd.int .i64) _ _ _ t234 [.int .i64 t234] from rfl) (Reps.one (show Kd.M (Kd.int .i64) _ _ _ 3 [.int .i64 3] from rfl) (Reps.none _ _)))); intro v240 w21 ho22 hb hg_ hnew_; clear hg_ hnew_; (first | rw [← Ny239.out] at ho22 | (simp only [Int.reduceToNat] at ho22; rw [← Ny239.out] at ho22)); have n0_ := Aside0.mk (Kd.R_elder' (by (with_reducible repeat (first | apply Kd.R_alloc | apply Kd.R_drewN | apply Kd.R_drew)); exact HO238.out) (Kd.R_base ho22) hb); have n1_ := Aside0.mk (Kd.R_lower (Kd.R_new' ho22 (Kd.R_lt (by (with_reducible repeat (first | apply Kd.R_alloc | apply Kd.R_drewN | apply Kd.R_drew)); exact HO238.out))) (below_size (by repeat (first | (with_reducible first | exact HB.out | apply below_alloc | apply pw_below_drewN | apply below_drew1 | refine below_set ?_ GE233.out) | exact HB.out)))); have n2_ := Aside0.mk (blk_below (g := gb233) (o := .cells #[.int .i64 t227, .int .i64 t228, .int .i64 t229, .int .i64 t230, .int .i64 t231, .int .i64 t232] 32 (0, 0)) (by (with_reducible repeat (first | refine blk_drewN ?_ _ | refine blk_drew ?_ | refine blk_alloc ?_ _)); exact BK233.out) hb); have n3_ := Aside0.mk (below_step (by repeat (first | (with_reducible first | exact HB.out | apply below_alloc | apply pw_below_drewN | apply below_drew1 | refine below_set ?_ GE233.out) | exact HB.out)) hb); clear HO238; clear BK233; clear HB; have HO238 := n0_; have HO241 := n1_; have BK233 := n2_; have HB := n3_; clear n0_ n1_ n2_ n3_; clear hb ho22; obtain ⟨Ao23, co23, eo23⟩ := Kd.R_slice HO241.out; subst eo23) | ((with_reducible refine gate_dst (N := 38) rfl ?_); (try (refine gate_guard (by rfl) ?_; dsimp only)); refine Kd.R_lit (Kd.int .i64) _ 3 ?hg (N := 38) ?hd (xs := ([(wrap64 (1 + t235))] : List Int)) (inner := [.int .i64 (wrap64 (1 + t235))]) (ok := fun _ => True) (okp := fun _ => True) ?hr ?hp (fun _ hk => hk) trivial (Below.refl _ _) (Nat.le_refl _) (by simp) ?_; (case hd => rfl); (case hg => rfl); (case hr => first | (go_simp; done) | (go_simp; rfl)); (case hp => exact (Reps.one (show Kd.M (Kd.int .i64) _ _ _ (wrap64 (1 + t235)) [.int .i64 (wrap64 (1 + t235))] from rfl) (Reps.none _ _))); intro v243 w24 ho25 hb hg_ hnew_; clear hg_ hnew_; (first | rw [← Ny242.out] at ho25 | (simp only [Int.reduceToNat] at ho25; rw [← Ny242.out] at ho25)); have n0_ := Aside0.mk (Kd.R_elder' (by (with_reducible repeat (first | apply Kd.R_alloc | apply Kd.R_drewN | apply Kd.R_drew)); exact HO238.out) (Kd.R_base ho25) hb); have n1_ := Aside0.mk (Kd.R_elder' (by (with_reducible repeat (first | apply Kd.R_alloc | apply Kd.R_drewN | apply Kd.R_drew)); exact HO241.out) (Kd.R_base ho25) hb); have n2_ := Aside0.mk (Kd.R_lower (Kd.R_new' (Kd.R_new' ho25 (Kd.R_lt (by (with_reducible repeat (first | apply Kd.R_alloc | apply Kd.R_drewN | apply Kd.R_drew)); exact HO238.out))) (Kd.R_lt (by (with_reducible repeat (first | apply Kd.R_alloc | apply Kd.R_drewN | apply Kd.R_drew)); exact HO241.out))) (below_size (by repeat (first | (with_reducible first | exact HB.out | apply below_alloc | apply pw_below_drewN | apply below_drew1 | refine below_set ?_ GE233.out) | exact HB.out)))); have n3_ := Aside0.mk (blk_below (g := gb233) (o := .cells #[.int .i64 t227, .int .i64 t228, .int .i64 t229, .int .i64 t230, .int .i64 t231, .int .i64 t232] 32 (0, 0)) (by (with_reducible repeat (first | refine blk_drewN ?_ _ | refine blk_drew ?_ | refine blk_alloc ?_ _)); exact BK233.out) hb); have n4_ := Aside0.mk (below_step (by repeat (first | (with_reducible first | exact HB.out | apply below_alloc | apply pw_below_drewN | apply below_drew1 | refine below_set ?_ GE233.out) | exact HB.out)) hb); clear HO238; clear HO241; clear BK233; clear HB; have HO238 := n0_; have HO241 := n1_; have HO244 := n2_; have BK233 := n3_; have HB := n4_; clear n0_ n1_ n2_ n3_ n4_; clear hb ho25; obtain ⟨Ao26, co26, eo26⟩ := Kd.R_slice HO244.out; subst eo26) | ((with_reducible refine gate_dst (N := 41) rfl ?_); (try (refine gate_guard (by rfl) ?_; dsimp only)); refine Kd.R_lit (Kd.int .i64) _ 3 ?hg (N := 41) ?hd (xs := ([x12_9] : List Int)) (inner := [.int .i64 x12_9]) (ok := fun _ => True) (okp := fun _ => True) ?hr ?hp (fun _ hk => hk) trivial (Below.refl _ _) (Nat.le_refl _) (by simp) ?_; (case hd => rfl); (case hg => rfl); (case hr => first | (go_simp; done) | (go_simp; rfl)); (case hp => exact (Reps.one (show Kd.M (Kd.int .i64) _ _ _ x12_9 [.int .i64 x12_9] from rfl) (Reps.none _ _))); intro v246 w27 ho28 hb hg_ hnew_; clear hg_ hnew_; (first | rw [← Ny245.out] at ho28 | (simp only [Int.reduceToNat] at ho28; rw [← Ny245.out] at ho28)); have n0_ := Aside0.mk (Kd.R_elder' (by (with_reducible repeat (first | apply Kd.R_alloc | apply Kd.R_drewN | apply Kd.R_drew)); exact HO238.out) (Kd.R_base ho28) hb); have n1_ := Aside0.mk (Kd.R_elder' (by (with_reducible repeat (first | apply Kd.R_alloc | apply Kd.R_drewN | apply Kd.R_drew)); exact HO241.out) (Kd.R_base ho28) hb); have n2_ := Aside0.mk (Kd.R_elder' (by (with_reducible repeat (first | apply Kd.R_alloc | apply Kd.R_drewN | apply Kd.R_drew)); exact HO244.out) (Kd.R_base ho28) hb); have n3_ := Aside0.mk (Kd.R_lower (Kd.R_new' (Kd.R_new' (Kd.R_new' ho28 (Kd.R_lt (by (with_reducible repeat (first | apply Kd.R_alloc | apply Kd.R_drewN | apply Kd.R_drew)); exact HO238.out))) (Kd.R_lt (by (with_reducible repeat (first | apply Kd.R_alloc | apply Kd.R_drewN | apply Kd.R_drew)); exact HO241.out))) (Kd.R_lt (by (with_reducible repeat (first | apply Kd.R_alloc | apply Kd.R_drewN | apply Kd.R_drew)); exact HO244.out))) (below_size (by repeat (first | (with_reducible first | exact HB.out | apply below_alloc | apply pw_below_drewN | apply below_drew1 | refine below_set ?_ GE233.out) | exact HB.out)))); have n4_ := Aside0.mk (blk_below (g := gb233) (o := .cells #[.int .i64 t227, .int .i64 t228, .int .i64 t229, .int .i64 t230, .int .i64 t231, .int .i64 t232] 32 (0, 0)) (by (with_reducible repeat (first | refine blk_drewN ?_ _ | refine blk_drew ?_ | refine blk_alloc ?_ _)); exact BK233.out) hb); have n5_ := Aside0.mk (below_step (by repeat (first | (with_reducible first | exact HB.out | apply below_alloc | apply pw_below_drewN | apply below_drew1 | refine below_set ?_ GE233.out) | exact HB.out)) hb); clear HO238; clear HO241; clear HO244; clear BK233; clear HB; have HO238 := n0_; have HO241 := n1_; have HO244 := n2_; have HO247 := n3_; have BK233 := n4_; have HB := n5_; clear n0_ n1_ n2_ n3_ n4_ n5_; clear hb ho28; obtain ⟨Ao29, co29, eo29⟩ := Kd.R_slice HO247.out; subst eo29) | ((with_reducible refine gate_dst (N := 43) rfl ?_); (try (refine gate_guard (by rfl) ?_; dsimp only)); refine Kd.N_lit k27 _ 27 ?hg (N' := 43) ?hd (xs := ([(⟨1, y239⟩ : S27), (⟨2, y242⟩ : S27), (⟨2, y245⟩ : S27)] : List (S27))) (inner := [.int .i64 1, .slice Ao23 y239.length co23, .int .i64 2, .slice Ao26 y242.length co26, .int .i64 2, .slice Ao29 y245.length co29]) (ok := (fun k_ => some k_ ≠ (.slice Ao20 y236.length co20 : Value).ownBlock ∧ k_ ≠ gb233)) (okp := (fun k_ => some k_ ≠ (.slice Ao20 y236.length co20 : Value).ownBlock ∧ k_ ≠ gb233)) ?hr ?hp (fun _ hk => hk) ((show ∀ k_, w27.heap.size ≤ k_ → (fun k_ => some k_ ≠ (.slice Ao20 y236.length co20 : Value).ownBlock ∧ k_ ≠ gb233) k_ from fun k_ hk => ⟨Kd.fresh' (Kd.R_lt (by (with_reducible repeat (first | apply Kd.R_alloc | apply Kd.R_drewN | apply Kd.R_drew)); exact HO238.out)) k_ hk, Kd.freshB (g := gb233) (o := .cells #[.int .i64 t227, .int .i64 t228, .int .i64 t229, .int .i64 t230, .int .i64 t231, .int .i64 t232] 32 (0, 0)) (by (with_reducible repeat (first | refine blk_drewN ?_ _ | refine blk_drew ?_ | refine blk_alloc ?_ _)); exact BK233.out) k_ hk⟩) _ (Nat.le_refl _)) (Below.refl _ _) (Nat.le_refl _) (by simp) ?_; (case hd => rfl); (case hg => rfl); (case hr => first | (go_simp; done) | (go_simp; rfl)); (case hp => exact (Reps.c2 (show Kd.FK k27 _ _ (⟨1, y239⟩ : S27) [.int .i64 1, .slice Ao23 y239.length co23] from (k27_mkF _ _ (⟨1, y239⟩ : S27) (Kd.R_reads' (Kd.R_mono (ok' := (fun k_ => some k_ ≠ (.slice Ao20 y236.length co20 : Value).ownBlock ∧ k_ ≠ gb233)) (Kd.R_types (HO241.out) BK233.out (by decide)) (fun k_ hk => ⟨hk.1.1.1.2, hk.2⟩))).2.1 (Kd.R_F (Kd.R_mono (ok' := (fun k_ => some k_ ≠ (.slice Ao20 y236.length co20 : Value).ownBlock ∧ k_ ≠ gb233)) (Kd.R_types (HO241.out) BK233.out (by decide)) (fun k_ hk => ⟨hk.1.1.1.2, hk.2⟩))))) (Reps.c2 (show Kd.FK k27 _ _ (⟨2, y242⟩ : S27) [.int .i64 2, .slice Ao26 y242.length co26] from (k27_mkF _ _ (⟨2, y242⟩ : S27) (Kd.R_reads' (Kd.R_mono (ok' := (fun k_ => some k_ ≠ (.slice Ao20 y236.length co20 : Value).ownBlock ∧ k_ ≠ gb233)) (Kd.R_types (HO244.out) BK233.out (by decide)) (fun k_ hk => ⟨hk.1.1.1.2, hk.2⟩))).2.1 (Kd.R_F (Kd.R_mono (ok' := (fun k_ => some k_ ≠ (.slice Ao20 y236.length co20 : Value).ownBlock ∧ k_ ≠ gb233)) (Kd.R_types (HO244.out) BK233.out (by decide)) (fun k_ hk => ⟨hk.1.1.1.2, hk.2⟩))))) (Reps.c2 (show Kd.FK k27 _ _ (⟨2, y245⟩ : S27) [.int .i64 2, .slice Ao29 y245.length co29] from (k27_mkF _ _ (⟨2, y245⟩ : S27) (Kd.R_reads' (Kd.R_mono (ok' := (fun k_ => some k_ ≠ (.slice Ao20 y236.length co20 : Value).ownBlock ∧ k_ ≠ gb233)) (Kd.R_types (HO247.out) BK233.out (by decide)) (fun k_ hk => ⟨hk.1.1.1.2, hk.2⟩))).2.1 (Kd.R_F (Kd.R_mono (ok' := (fun k_ => some k_ ≠ (.slice Ao20 y236.length co20 : Value).ownBlock ∧ k_ ≠ gb233)) (Kd.R_types (HO247.out) BK233.out (by decide)) (fun k_ hk => ⟨hk.1.1.1.2, hk.2⟩))))) (Reps.none _ _))))); intro v249 w30 ho31 hb hg_ hnew_; clear hg_ hnew_; (first | rw [← Ny248.out] at ho31 | (simp only [Int.reduceToNat] at ho31; rw [← Ny248.out] at ho31)); have n0_ := Aside0.mk (Kd.R_below (by (with_reducible repeat (first | apply Kd.R_alloc | apply Kd.R_drewN | apply Kd.R_drew)); exact HO238.out) hb); have n1_ := Aside0.mk (Kd.N_lower ho31 (below_size (by repeat (first | (with_reducible first | exact HB.out | apply below_alloc | apply pw_below_drewN | apply below_drew1 | refine below_set ?_ GE233.out) | exact HB.out)))); have n2_ := Aside0.mk (blk_below (g := gb233) (o := .cells #[.int .i64 t227, .int .i64 t228, .int .i64 t229, .int .i64 t230, .int .i64 t231, .int .i64 t232] 32 (0, 0)) (by (with_reducible repeat (first | refine blk_drewN ?_ _ | refine blk_drew ?_ | refine blk_alloc ?_ _)); exact BK233.out) hb); have n3_ := Aside0.mk (below_step (by repeat (first | (with_reducible first | exact HB.out | apply below_alloc | apply pw_below_drewN | apply below_drew1 | refine below_set ?_ GE233.out) | exact HB.out)) hb); clear HO238; clear BK233; clear HB; clear HO241; clear HO244; clear HO247; have HO238 := n0_; have HO250 := n1_; have BK233 := n2_; have HB := n3_; clear n0_ n1_ n2_ n3_; clear hb ho31; have hcz32_0 : w30.cell? ⟨gb233, 0, none⟩ = some (.int .i64 t227) := (blk_cell BK233.out 0).trans rfl; have hcz32_1 : w30.cell? ⟨gb233, 1, none⟩ = some (.int .i64 t228) := (blk_cell BK233.out 1).trans rfl; have hcz32_2 : w30.cell? ⟨gb233, 2, none⟩ = some (.int .i64 t229) := (blk_cell BK233.out 2).trans rfl; have hcz32_3 : w30.cell? ⟨gb233, 3, none⟩ = some (.int .i64 t230) := (blk_cell BK233.out 3).trans rfl; have hcz32_4 : w30.cell? ⟨gb233, 4, none⟩ = some (.int .i64 t231) := (blk_cell BK233.out 4).trans rfl; have hcz32_5 : w30.cell? ⟨gb233, 5, none⟩ = some (.int .i64 t232) := (blk_cell BK233.out 5).trans rfl; have hfz32_0 := blk_frozen BK233.out 0; have hfz32_1 := blk_frozen BK233.out 1; have hfz32_2 := blk_frozen BK233.out 2; have hfz32_3 := blk_frozen BK233.out 3; have hfz32_4 := blk_frozen BK233.out 4; have hfz32_5 := blk_frozen BK233.out 5; obtain ⟨Ao33, co33, eo33⟩ := Kd.N_slice HO250.out; subst eo33) | ((with_reducible refine gate_callee (f := 22) rfl ?_); refine goesL_ (some 45) rfl rfl Try.func22 (by kernel_rfl) rfl #[.agg #[.int .i64 6, .slice Ao20 y236.length co20], .slice Ao33 y248.length co33, .agg #[.int .i64 t227, .int .i64 t228, .int .i64 t229, .int .i64 t230, .int .i64 t231, .int .i64 t232]] rfl (by (try simp only [List.map_toArray, List.map_cons, List.map_nil]); first | done | rfl | (simp only [List.length_drop, List.length_take]; rfl)) ?_; (with_reducible refine (act_Do.calls kj9 6 _ _ y236 _ _ y248 t227 t228 t229 t230 t231 t232 t251 t252 t255 _ ?side1 ?side2 ?side3 ?side4 A16.out).mono ?_); (case side1 => repeat (first | exact (Kd.R_reads' HO238.out).2.2 | (with_reducible refine Kd.C_alloc ?_ _) | (with_reducible refine Kd.C_drewN ?_ _) | (with_reducible refine Kd.C_drew ?_))); (case side2 => exact (Kd.R_reads' HO238.out).2.1); (case side3 => repeat (first | exact (Kd.N_reads' HO250.out).2.2 | (with_reducible refine Kd.C_alloc ?_ _) | (with_reducible refine Kd.C_drewN ?_ _) | (with_reducible refine Kd.C_drew ?_))); (case side4 => exact (Kd.N_reads' HO250.out).2.1); rintro e w34 ⟨v253, rfl, ho0, hb⟩; refine ⟨_, rfl, ?_⟩; have n0_ := Aside0.mk (Kd.R_elder' (by (with_reducible repeat (first | apply Kd.R_alloc | apply Kd.R_drewN | apply Kd.R_drew)); exact HO238.out) (Kd.R_base ho0) hb); have n1_ := Aside0.mk (Kd.N_elder' (by (with_reducible repeat (first | apply Kd.N_alloc | apply Kd.N_drewN | apply Kd.N_drew)); exact HO250.out) (Kd.R_base ho0) hb); have n2_ := Aside0.mk (Kd.R_lower (Kd.R_new' ho0 (Kd.R_lt (by (with_reducible repeat (first | apply Kd.R_alloc | apply Kd.R_drewN | apply Kd.R_drew)); exact HO238.out))) (below_size (by repeat (first | (with_reducible first | exact HB.out | apply below_alloc | apply pw_below_drewN | apply below_drew1 | refine below_set ?_ GE233.out) | exact HB.out)))); have n3_ := Aside0.mk (blk_below (g := gb233) (o := .cells #[.int .i64 t227, .int .i64 t228, .int .i64 t229, .int .i64 t230, .int .i64 t231, .int .i64 t232] 32 (0, 0)) (by (with_reducible repeat (first | refine blk_drewN ?_ _ | refine blk_drew ?_ | refine blk_alloc ?_ _)); exact BK233.out) hb); have n4_ := Aside0.mk (below_step (by repeat (first | (with_reducible first | exact HB.out | apply below_alloc | apply pw_below_drewN | apply below_drew1 | refine below_set ?_ GE233.out) | exact HB.out)) hb); clear HO238; clear HO250; clear BK233; clear HB; have HO238 := n0_; have HO250 := n1_; have HO254 := n2_; have BK233 := n3_; have HB := n4_; clear n0_ n1_ n2_ n3_ n4_; (try clear hb); (try clear hb2); (try clear hk); (try clear hi); (try clear ho0)) | ((with_reducible refine gate_dst (N := 13) rfl ?_); (try (refine gate_guard (by rfl) ?_; dsimp only)); refine box_event ?hg (N := 13) ?hd (cs := #[.int .i64 0, .slice none 0 0]) (t := 27) ?hr ?_; (case hd => rfl); (case hg => rfl); (case hr => first | (go_simp; done) | (go_simp; rfl)); intro gb256 hg w35 hbox hb; have n0_ := Aside0.mk (Kd.R_below (by (with_reducible repeat (first | apply Kd.R_alloc | apply Kd.R_drewN | apply Kd.R_drew)); exact HO238.out) hb); have n1_ := Aside0.mk (Kd.N_below (Kd.N_elderB (by (with_reducible repeat (first | apply Kd.N_alloc | apply Kd.N_drewN | apply Kd.N_drew)); exact HO250.out) gb256 (Nat.le_of_eq hg.symm)) hb); have n2_ := Aside0.mk (Kd.R_below (by (with_reducible repeat (first | apply Kd.R_alloc | apply Kd.R_drewN | apply Kd.R_drew)); exact HO254.out) hb); have n3_ := Aside0.mk (blk_below (g := gb233) (o := .cells #[.int .i64 t227, .int .i64 t228, .int .i64 t229, .int .i64 t230, .int .i64 t231, .int .i64 t232] 32 (0, 0)) (by (with_reducible repeat (first | refine blk_drewN ?_ _ | refine blk_drew ?_ | refine blk_alloc ?_ _)); exact BK233.out) hb); have n4_ := Aside0.mk (below_step (by repeat (first | (with_reducible first | exact HB.out | apply below_alloc | apply pw_below_drewN | apply below_drew1 | refine below_set ?_ GE233.out) | exact HB.out)) hb); have n5_ := Aside0.mk (hbox); have n6_ := Aside0.mk ((by rw [hg]; exact (below_size (by repeat (first | (with_reducible first | exact HB.out | apply below_alloc | apply pw_below_drewN | apply below_drew1 | refine below_set ?_ GE233.out) | exact HB.out))) : w.heap.size ≤ gb256)); have n7_ := Aside0.mk ((by rw [hg]; exact (below_size (by repeat (first | (with_reducible first | exact HB.out | apply below_alloc | apply pw_below_drewN | apply below_drew1 | refine below_set ?_ GE233.out) | exact HB.out))) : w.heap.size ≤ gb256)); have n8_ := Aside0.mk ((by rw [hg]; exact Nat.ne_of_lt (blk_lt (g := gb233) (o := .cells #[.int .i64 t227, .int .i64 t228, .int .i64 t229, .int .i64 t230, .int .i64 t231, .int .i64 t232] 32 (0, 0)) (by (with_reducible repeat (first | refine blk_drewN ?_ _ | refine blk_drew ?_ | refine blk_alloc ?_ _)); exact BK233.out)) : gb233 ≠ gb256)); have n9_ := Aside0.mk ((by rw [hg]; exact Nat.ne_of_gt (blk_lt (g := gb233) (o := .cells #[.int .i64 t227, .int .i64 t228, .int .i64 t229, .int .i64 t230, .int .i64 t231, .int .i64 t232] 32 (0, 0)) (by (with_reducible repeat (first | refine blk_drewN ?_ _ | refine blk_drew ?_ | refine blk_alloc ?_ _)); exact BK233.out)) : gb256 ≠ gb233)); clear HO238; clear HO250; clear HO254; clear BK233; clear HB; have HO238 := n0_; have HO250 := n1_; have HO254 := n2_; have BK233 := n3_; have HB := n4_; have BK256 := n5_; have GW256 := n6_; have GE256 := n7_; have NB233_256 := n8_; have NB256_233 := n9_; clear n0_ n1_ n2_ n3_ n4_ n5_ n6_ n7_ n8_ n9_; clear hb hbox hg; have hnb36 := NB256_233.out; have hnc36 := NB233_256.out; have hcz37_0 : w35.cell? ⟨gb256, 0, none⟩ = some (.int .i64 0) := (blk_cell BK256.out 0).trans rfl; have hcz37_1 : w35.cell? ⟨gb256, 1, none⟩ = some (.slice none 0 0) := (blk_cell BK256.out 1).trans rfl; have hfz37_0 := blk_frozen BK256.out 0; have hfz37_1 := blk_frozen BK256.out 1; obtain ⟨Ao38, co38, eo38⟩ := Kd.R_slice HO254.out; subst eo38))
        (try simp only [Act.put, List.setIfInBounds_toArray, List.set_cons_zero, List.set_cons_succ])
        go_cut [15, 16] (fun v15 v16 wc => ∃ (kq : Nat) (x15_16 : Int) (x16_16 : Int), v15 = .int .i64 x15_16 ∧ v16 = .int .i64 x16_16 ∧ Aside0 (interlocutorlaw8_ActMoves.j1 kq t255 x15_16 x16_16 t227 t228 t229 t230 t231 t232 t251 t252 = some r) ∧ Aside0 (kq ≤ kj9) ∧ Aside0 (Kd.R (Kd.int .i64) 3 wc w.heap.size (fun _ => True) (.slice Ao38 t252.length co38) t252) ∧ Aside0 (wc.heap[gb233]? = some (.cells #[.int .i64 t227, .int .i64 t228, .int .i64 t229, .int .i64 t230, .int .i64 t231, .int .i64 t232] 32 (0, 0))) ∧ Aside0 (wc.heap[gb256]? = some (.cells #[.int .i64 t251, (.slice Ao38 t252.length co38)] 27 (0, 0))) ∧ Aside0 (Below w.heap.size w wc))
        case first =>
          have H := HC17.out
          clear HC17
          by_cases c39 : (wrap64 (1 + t235)) = 1
          · rw [if_pos c39] at H
            have c39b0 : ((wrap64 (1 + t235)) == 1) = true := beq_iff_eq.mpr c39
            have c39b1 : ((wrap64 (1 + t235)) != 1) = false := bne_eq_false_iff_eq.mpr c39
            clear c39
            (first | rw [c39b0] | (simp only [i64_w, i32_w]; rw [c39b0]) | skip)
            have H' := Aside0.mk H
            clear H
            go_wp2
            go_meet
            case rel => exact ⟨_, (0), (wrap64 (t234 * x12_9)), (by first | rfl | (simp; done) | (simp [*]; done)), (by first | rfl | (simp; done) | (simp [*]; done)), H', ⟨by have := HJ9.out; first | omega | exact Nat.le_refl _⟩, ⟨by (with_reducible repeat (first | apply Kd.R_alloc | apply Kd.R_drewN | apply Kd.R_drew)); exact Kd.R_mono (Kd.R_far (p := ⟨gb256, 1, none⟩) (Kd.R_far (p := ⟨gb256, 0, none⟩) (Kd.R_types HO254.out BK256.out (by decide)) (fun _ hk => hk.2) (.int .i64 t251)) (fun _ hk => hk.2) (.slice Ao38 t252.length co38)) (fun _ hk => trivial)⟩, ⟨by (with_reducible repeat (first | refine blk_drewN ?_ _ | refine blk_drew ?_ | refine blk_alloc ?_ _)); refine blk_far ?_ NB233_256.out _; (with_reducible repeat (first | refine blk_drewN ?_ _ | refine blk_drew ?_ | refine blk_alloc ?_ _)); refine blk_far ?_ NB233_256.out _; (with_reducible repeat (first | refine blk_drewN ?_ _ | refine blk_drew ?_ | refine blk_alloc ?_ _)); exact BK233.out⟩, ⟨by (with_reducible repeat (first | refine blk_drewN ?_ _ | refine blk_drew ?_ | refine blk_alloc ?_ _)); refine blk_put (cs := #[.int .i64 t251, .slice none 0 0]) ?_ 1 _ rfl; (with_reducible repeat (first | refine blk_drewN ?_ _ | refine blk_drew ?_ | refine blk_alloc ?_ _)); refine blk_put (cs := #[.int .i64 0, .slice none 0 0]) ?_ 0 _ rfl; (with_reducible repeat (first | refine blk_drewN ?_ _ | refine blk_drew ?_ | refine blk_alloc ?_ _)); exact BK256.out⟩, ⟨by repeat (first | (with_reducible first | exact HB.out | apply below_alloc | apply pw_below_drewN | apply below_drew1 | refine below_set ?_ GE233.out | refine below_set ?_ GE256.out) | exact HB.out)⟩⟩
          · rw [if_neg c39] at H
            have c39b0 : ((wrap64 (1 + t235)) == 1) = false := beq_eq_false_iff_ne.mpr c39
            have c39b1 : ((wrap64 (1 + t235)) != 1) = true := bne_iff_ne.mpr c39
            (first | rw [c39b0] | (simp only [i64_w, i32_w]; rw [c39b0]) | skip)
            by_cases c40 : (wrap64 (1 + t235)) = 2
            · rw [if_pos c40] at H
              have c40b0 : ((wrap64 (1 + t235)) == 2) = true := beq_iff_eq.mpr c40
              have c40b1 : ((wrap64 (1 + t235)) != 2) = false := bne_eq_false_iff_eq.mpr c40
              clear c40
              have H' := Aside0.mk H
              clear H
              go_wp2
              go_meet
              case rel => exact ⟨_, (0), (wrap64 ((wrap64 (7 * t234)) * x12_9)), (by first | rfl | (simp; done) | (simp [*]; done)), (by first | rfl | (simp; done) | (simp [*]; done)), H', ⟨by have := HJ9.out; first | omega | exact Nat.le_refl _⟩, ⟨by (with_reducible repeat (first | apply Kd.R_alloc | apply Kd.R_drewN | apply Kd.R_drew)); exact Kd.R_mono (Kd.R_far (p := ⟨gb256, 1, none⟩) (Kd.R_far (p := ⟨gb256, 0, none⟩) (Kd.R_types HO254.out BK256.out (by decide)) (fun _ hk => hk.2) (.int .i64 t251)) (fun _ hk => hk.2) (.slice Ao38 t252.length co38)) (fun _ hk => trivial)⟩, ⟨by (with_reducible repeat (first | refine blk_drewN ?_ _ | refine blk_drew ?_ | refine blk_alloc ?_ _)); refine blk_far ?_ NB233_256.out _; (with_reducible repeat (first | refine blk_drewN ?_ _ | refine blk_drew ?_ | refine blk_alloc ?_ _)); refine blk_far ?_ NB233_256.out _; (with_reducible repeat (first | refine blk_drewN ?_ _ | refine blk_drew ?_ | refine blk_alloc ?_ _)); exact BK233.out⟩, ⟨by (with_reducible repeat (first | refine blk_drewN ?_ _ | refine blk_drew ?_ | refine blk_alloc ?_ _)); refine blk_put (cs := #[.int .i64 t251, .slice none 0 0]) ?_ 1 _ rfl; (with_reducible repeat (first | refine blk_drewN ?_ _ | refine blk_drew ?_ | refine blk_alloc ?_ _)); refine blk_put (cs := #[.int .i64 0, .slice none 0 0]) ?_ 0 _ rfl; (with_reducible repeat (first | refine blk_drewN ?_ _ | refine blk_drew ?_ | refine blk_alloc ?_ _)); exact BK256.out⟩, ⟨by repeat (first | (with_reducible first | exact HB.out | apply below_alloc | apply pw_below_drewN | apply below_drew1 | refine below_set ?_ GE233.out | refine below_set ?_ GE256.out) | exact HB.out)⟩⟩
            · rw [if_neg c40] at H
              have c40b0 : ((wrap64 (1 + t235)) == 2) = false := beq_eq_false_iff_ne.mpr c40
              have c40b1 : ((wrap64 (1 + t235)) != 2) = true := bne_iff_ne.mpr c40
              by_cases c41 : (wrap64 (1 + t235)) = 3
              · rw [if_pos c41] at H
                have c41b0 : ((wrap64 (1 + t235)) == 3) = true := beq_iff_eq.mpr c41
                have c41b1 : ((wrap64 (1 + t235)) != 3) = false := bne_eq_false_iff_eq.mpr c41
                clear c41
                have H' := Aside0.mk H
                clear H
                go_wp2
                go_meet
                case rel => exact ⟨_, (wrap64 (t234 * x12_9)), (0), (by first | rfl | (simp; done) | (simp [*]; done)), (by first | rfl | (simp; done) | (simp [*]; done)), H', ⟨by have := HJ9.out; first | omega | exact Nat.le_refl _⟩, ⟨by (with_reducible repeat (first | apply Kd.R_alloc | apply Kd.R_drewN | apply Kd.R_drew)); exact Kd.R_mono (Kd.R_far (p := ⟨gb256, 1, none⟩) (Kd.R_far (p := ⟨gb256, 0, none⟩) (Kd.R_types HO254.out BK256.out (by decide)) (fun _ hk => hk.2) (.int .i64 t251)) (fun _ hk => hk.2) (.slice Ao38 t252.length co38)) (fun _ hk => trivial)⟩, ⟨by (with_reducible repeat (first | refine blk_drewN ?_ _ | refine blk_drew ?_ | refine blk_alloc ?_ _)); refine blk_far ?_ NB233_256.out _; (with_reducible repeat (first | refine blk_drewN ?_ _ | refine blk_drew ?_ | refine blk_alloc ?_ _)); refine blk_far ?_ NB233_256.out _; (with_reducible repeat (first | refine blk_drewN ?_ _ | refine blk_drew ?_ | refine blk_alloc ?_ _)); exact BK233.out⟩, ⟨by (with_reducible repeat (first | refine blk_drewN ?_ _ | refine blk_drew ?_ | refine blk_alloc ?_ _)); refine blk_put (cs := #[.int .i64 t251, .slice none 0 0]) ?_ 1 _ rfl; (with_reducible repeat (first | refine blk_drewN ?_ _ | refine blk_drew ?_ | refine blk_alloc ?_ _)); refine blk_put (cs := #[.int .i64 0, .slice none 0 0]) ?_ 0 _ rfl; (with_reducible repeat (first | refine blk_drewN ?_ _ | refine blk_drew ?_ | refine blk_alloc ?_ _)); exact BK256.out⟩, ⟨by repeat (first | (with_reducible first | exact HB.out | apply below_alloc | apply pw_below_drewN | apply below_drew1 | refine below_set ?_ GE233.out | refine below_set ?_ GE256.out) | exact HB.out)⟩⟩
              · rw [if_neg c41] at H
                have c41b0 : ((wrap64 (1 + t235)) == 3) = false := beq_eq_false_iff_ne.mpr c41
                have c41b1 : ((wrap64 (1 + t235)) != 3) = true := bne_iff_ne.mpr c41
                by_cases c42 : (wrap64 (1 + t235)) = 4
                · rw [if_pos c42] at H
                  have c42b0 : ((wrap64 (1 + t235)) == 4) = true := beq_iff_eq.mpr c42
                  have c42b1 : ((wrap64 (1 + t235)) != 4) = false := bne_eq_false_iff_eq.mpr c42
                  clear c42
                  have H' := Aside0.mk H
                  clear H
                  go_wp2
                  go_meet
                  case rel => exact ⟨_, (wrap64 ((wrap64 (12 * t234)) * x12_9)), (0), (by first | rfl | (simp; done) | (simp [*]; done)), (by first | rfl | (simp; done) | (simp [*]; done)), H', ⟨by have := HJ9.out; first | omega | exact Nat.le_refl _⟩, ⟨by (with_reducible repeat (first | apply Kd.R_alloc | apply Kd.R_drewN | apply Kd.R_drew)); exact Kd.R_mono (Kd.R_far (p := ⟨gb256, 1, none⟩) (Kd.R_far (p := ⟨gb256, 0, none⟩) (Kd.R_types HO254.out BK256.out (by decide)) (fun _ hk => hk.2) (.int .i64 t251)) (fun _ hk => hk.2) (.slice Ao38 t252.length co38)) (fun _ hk => trivial)⟩, ⟨by (with_reducible repeat (first | refine blk_drewN ?_ _ | refine blk_drew ?_ | refine blk_alloc ?_ _)); refine blk_far ?_ NB233_256.out _; (with_reducible repeat (first | refine blk_drewN ?_ _ | refine blk_drew ?_ | refine blk_alloc ?_ _)); refine blk_far ?_ NB233_256.out _; (with_reducible repeat (first | refine blk_drewN ?_ _ | refine blk_drew ?_ | refine blk_alloc ?_ _)); exact BK233.out⟩, ⟨by (with_reducible repeat (first | refine blk_drewN ?_ _ | refine blk_drew ?_ | refine blk_alloc ?_ _)); refine blk_put (cs := #[.int .i64 t251, .slice none 0 0]) ?_ 1 _ rfl; (with_reducible repeat (first | refine blk_drewN ?_ _ | refine blk_drew ?_ | refine blk_alloc ?_ _)); refine blk_put (cs := #[.int .i64 0, .slice none 0 0]) ?_ 0 _ rfl; (with_reducible repeat (first | refine blk_drewN ?_ _ | refine blk_drew ?_ | refine blk_alloc ?_ _)); exact BK256.out⟩, ⟨by repeat (first | (with_reducible first | exact HB.out | apply below_alloc | apply pw_below_drewN | apply below_drew1 | refine below_set ?_ GE233.out | refine below_set ?_ GE256.out) | exact HB.out)⟩⟩
                · rw [if_neg c42] at H
                  have c42b0 : ((wrap64 (1 + t235)) == 4) = false := beq_eq_false_iff_ne.mpr c42
                  have c42b1 : ((wrap64 (1 + t235)) != 4) = true := bne_iff_ne.mpr c42
                  have H' := Aside0.mk H
                  clear H
                  go_wp2
                  go_meet
                  case rel => exact ⟨_, (0), (0), (by first | rfl | (simp; done) | (simp [*]; done)), (by first | rfl | (simp; done) | (simp [*]; done)), H', ⟨by have := HJ9.out; first | omega | exact Nat.le_refl _⟩, ⟨by (with_reducible repeat (first | apply Kd.R_alloc | apply Kd.R_drewN | apply Kd.R_drew)); exact Kd.R_mono (Kd.R_far (p := ⟨gb256, 1, none⟩) (Kd.R_far (p := ⟨gb256, 0, none⟩) (Kd.R_types HO254.out BK256.out (by decide)) (fun _ hk => hk.2) (.int .i64 t251)) (fun _ hk => hk.2) (.slice Ao38 t252.length co38)) (fun _ hk => trivial)⟩, ⟨by (with_reducible repeat (first | refine blk_drewN ?_ _ | refine blk_drew ?_ | refine blk_alloc ?_ _)); refine blk_far ?_ NB233_256.out _; (with_reducible repeat (first | refine blk_drewN ?_ _ | refine blk_drew ?_ | refine blk_alloc ?_ _)); refine blk_far ?_ NB233_256.out _; (with_reducible repeat (first | refine blk_drewN ?_ _ | refine blk_drew ?_ | refine blk_alloc ?_ _)); exact BK233.out⟩, ⟨by (with_reducible repeat (first | refine blk_drewN ?_ _ | refine blk_drew ?_ | refine blk_alloc ?_ _)); refine blk_put (cs := #[.int .i64 t251, .slice none 0 0]) ?_ 1 _ rfl; (with_reducible repeat (first | refine blk_drewN ?_ _ | refine blk_drew ?_ | refine blk_alloc ?_ _)); refine blk_put (cs := #[.int .i64 0, .slice none 0 0]) ?_ 0 _ rfl; (with_reducible repeat (first | refine blk_drewN ?_ _ | refine blk_drew ?_ | refine blk_alloc ?_ _)); exact BK256.out⟩, ⟨by repeat (first | (with_reducible first | exact HB.out | apply below_alloc | apply pw_below_drewN | apply below_drew1 | refine below_set ?_ GE233.out | refine below_set ?_ GE256.out) | exact HB.out)⟩⟩
        case rest =>
          clear HC17
          try clear c1
          try clear c2
          try clear p2
          try clear c3
          try clear c4
          try clear c6
          try clear p6
          try clear c15
          try clear c17
          try clear c18
          try clear c21
          try clear c22
          try clear c36
          try clear c39
          try clear c39b0
          try clear c39b1
          try clear c40
          try clear c40b0
          try clear c40b1
          try clear c41
          try clear c41b0
          try clear c41b1
          try clear c42
          try clear c42b0
          try clear c42b1
          try clear hcz14_0
          try clear hcz14_1
          try clear hcz14_2
          try clear hcz14_3
          try clear hcz14_4
          try clear hcz14_5
          try clear hcz32_0
          try clear hcz32_1
          try clear hcz32_2
          try clear hcz32_3
          try clear hcz32_4
          try clear hcz32_5
          try clear hcz37_0
          try clear hcz37_1
          try clear hfz14_0
          try clear hfz14_1
          try clear hfz14_2
          try clear hfz14_3
          try clear hfz14_4
          try clear hfz14_5
          try clear hfz32_0
          try clear hfz32_1
          try clear hfz32_2
          try clear hfz32_3
          try clear hfz32_4
          try clear hfz32_5
          try clear hfz37_0
          try clear hfz37_1
          try clear p2
          try clear p6
          obtain ⟨kq, x15_16, x16_16, rfl, rfl, HA, HJ16, HO_257001, BK233, BK256, HB⟩ := hcut
          cases kq with
          | zero => exact absurd HA.out (by simp [interlocutorlaw8_ActMoves.j1])
          | succ kj16 =>
            have H := HA.out
            clear HA
            simp only [interlocutorlaw8_ActMoves.j1] at H
            replace H := Option.bind_eq_some_iff.mp H
            obtain ⟨⟨t257, t258, t259, t260⟩, A430, H⟩ := H
            replace H : (if (t255 != t260) = true then (some false) else (if t255 = true then (if t251 = 4 then (if (t252.length : Int) = 3 then (if 0 < (t252.length : Int) then (if (rd t252 0) = t257 then (if 1 < (t252.length : Int) then (if (rd t252 1) = t258 then (if 2 < (t252.length : Int) then (some ((rd t252 2) == t259)) else (none)) else (some false)) else (none)) else (some false)) else (none)) else (some false)) else (some false)) else (some true))) = some r := H
            have A43 := Aside0.mk A430
            clear A430
            by_cases c44 : (t255 != t260) = true
            · rw [if_pos c44] at H
              have c44b0 : (t255 != t260) = true := c44
              (try (have c44b1 : decide (t255 = t260) = false := by simpa using c44))
              (try (have c44b2 : (t255 == t260) = false := by simpa using c44))
              (try (have c44b3 : ¬ (t255 = t260) := by simpa using c44))
              clear c44
              obtain rfl := Option.some.inj H
              have hnb45 := NB233_256.out
              have hnc45 := NB256_233.out
              have hcz46_0 : wc.cell? ⟨gb233, 0, none⟩ = some (.int .i64 t227) := (blk_cell BK233.out 0).trans rfl
              have hcz46_1 : wc.cell? ⟨gb233, 1, none⟩ = some (.int .i64 t228) := (blk_cell BK233.out 1).trans rfl
              have hcz46_2 : wc.cell? ⟨gb233, 2, none⟩ = some (.int .i64 t229) := (blk_cell BK233.out 2).trans rfl
              have hcz46_3 : wc.cell? ⟨gb233, 3, none⟩ = some (.int .i64 t230) := (blk_cell BK233.out 3).trans rfl
              have hcz46_4 : wc.cell? ⟨gb233, 4, none⟩ = some (.int .i64 t231) := (blk_cell BK233.out 4).trans rfl
              have hcz46_5 : wc.cell? ⟨gb233, 5, none⟩ = some (.int .i64 t232) := (blk_cell BK233.out 5).trans rfl
              have hfz46_0 := blk_frozen BK233.out 0
              have hfz46_1 := blk_frozen BK233.out 1
              have hfz46_2 := blk_frozen BK233.out 2
              have hfz46_3 := blk_frozen BK233.out 3
              have hfz46_4 := blk_frozen BK233.out 4
              have hfz46_5 := blk_frozen BK233.out 5
              go_wp2_with (first | ((with_reducible refine gate_callee (f := 30) rfl ?_); refine goesL_ (some 80) rfl rfl Try.func30 (by kernel_rfl) rfl #[.int .i64 t227, .int .i64 t228, .int .i64 t229, .int .i64 x15_16, .int .i64 x16_16] rfl (by (try simp only [List.map_toArray, List.map_cons, List.map_nil]); first | done | rfl | (simp only [List.length_drop, List.length_take]; rfl)) ?_; (with_reducible refine (interlocutorref1_Add.calls kj16 t227 t228 t229 x15_16 x16_16 t257 t258 t259 t260 _ A43.out).mono ?_); rintro e w47 ⟨rfl, hb⟩; refine ⟨_, rfl, ?_⟩; have n0_ := Aside0.mk (Kd.R_below (by (with_reducible repeat (first | apply Kd.R_alloc | apply Kd.R_drewN | apply Kd.R_drew)); exact HO_257001.out) hb); have n1_ := Aside0.mk (blk_below (g := gb233) (o := .cells #[.int .i64 t227, .int .i64 t228, .int .i64 t229, .int .i64 t230, .int .i64 t231, .int .i64 t232] 32 (0, 0)) (by (with_reducible repeat (first | refine blk_drewN ?_ _ | refine blk_drew ?_ | refine blk_alloc ?_ _)); exact BK233.out) hb); have n2_ := Aside0.mk (blk_below (g := gb256) (o := .cells #[.int .i64 t251, .slice Ao38 t252.length co38] 27 (0, 0)) (by (with_reducible repeat (first | refine blk_drewN ?_ _ | refine blk_drew ?_ | refine blk_alloc ?_ _)); exact BK256.out) hb); have n3_ := Aside0.mk (below_step (by repeat (first | (with_reducible first | exact HB.out | apply below_alloc | apply pw_below_drewN | apply below_drew1 | refine below_set ?_ GE233.out | refine below_set ?_ GE256.out) | exact HB.out)) hb); clear HO_257001; clear BK233; clear BK256; clear HB; have HO_257001 := n0_; have BK233 := n1_; have BK256 := n2_; have HB := n3_; clear n0_ n1_ n2_ n3_; (try clear hb); (try clear hb2); (try clear hk); (try clear hi)))
              go_ret
              exact ⟨by first | rfl | (simp [errW_none, errW_some] <;> rfl) | (simp [*, errW_none, errW_some] <;> rfl), by repeat (first | (with_reducible first | exact HB.out | apply below_alloc | apply pw_below_drewN | apply below_drew1 | refine below_set ?_ GE233.out | refine below_set ?_ GE256.out) | exact HB.out)⟩
            · rw [if_neg c44] at H
              have c44b0 : (t255 != t260) = false := by simpa using c44
              (try (have c44b1 : decide (t255 = t260) = true := by simpa using c44))
              (try (have c44b2 : (t255 == t260) = true := by simpa using c44))
              clear c44
              by_cases c48 : t255 = true
              · subst c48
                have H1 : (if t251 = 4 then (if (t252.length : Int) = 3 then (if 0 < (t252.length : Int) then (if (rd t252 0) = t257 then (if 1 < (t252.length : Int) then (if (rd t252 1) = t258 then (if 2 < (t252.length : Int) then (some ((rd t252 2) == t259)) else (none)) else (some false)) else (none)) else (some false)) else (none)) else (some false)) else (some false)) = some r := by rw [if_pos rfl] at H; exact H
                clear H
                have H := H1
                clear H1
                by_cases c49 : t251 = 4
                · rw [if_pos c49] at H
                  have c49b0 : (t251 == 4) = true := beq_iff_eq.mpr c49
                  have c49b1 : (t251 != 4) = false := bne_eq_false_iff_eq.mpr c49
                  clear c49
                  by_cases c50 : (t252.length : Int) = 3
                  · rw [if_pos c50] at H
                    have c50b0 : ((t252.length : Int) == 3) = true := beq_iff_eq.mpr c50
                    have c50b1 : ((t252.length : Int) != 3) = false := bne_eq_false_iff_eq.mpr c50
                    clear c50
                    by_cases c51 : 0 < (t252.length : Int)
                    · rw [if_pos c51] at H
                      have c51b0 : decide (0 < (t252.length : Int)) = true := decide_eq_true c51
                      have c51b1 : decide (0 < t252.length) = true := decide_eq_true (by omega)
                      clear c51
                      by_cases c52 : (rd t252 0) = t257
                      · rw [if_pos c52] at H
                        have c52b0 : ((rd t252 0) == t257) = true := beq_iff_eq.mpr c52
                        have c52b1 : ((rd t252 0) != t257) = false := bne_eq_false_iff_eq.mpr c52
                        clear c52
                        by_cases c53 : 1 < (t252.length : Int)
                        · rw [if_pos c53] at H
                          have c53b0 : decide (1 < (t252.length : Int)) = true := decide_eq_true c53
                          have c53b1 : decide (1 < t252.length) = true := decide_eq_true (by omega)
                          clear c53
                          by_cases c54 : (rd t252 1) = t258
                          · rw [if_pos c54] at H
                            have c54b0 : ((rd t252 1) == t258) = true := beq_iff_eq.mpr c54
                            have c54b1 : ((rd t252 1) != t258) = false := bne_eq_false_iff_eq.mpr c54
                            clear c54
                            by_cases c55 : 2 < (t252.length : Int)
                            · rw [if_pos c55] at H
                              have c55b0 : decide (2 < (t252.length : Int)) = true := decide_eq_true c55
                              have c55b1 : decide (2 < t252.length) = true := decide_eq_true (by omega)
                              clear c55
                              obtain rfl := Option.some.inj H
                              have hnb56 := NB233_256.out
                              have hnc56 := NB256_233.out
                              have hcz57_0 : wc.cell? ⟨gb233, 0, none⟩ = some (.int .i64 t227) := (blk_cell BK233.out 0).trans rfl
                              have hcz57_1 : wc.cell? ⟨gb233, 1, none⟩ = some (.int .i64 t228) := (blk_cell BK233.out 1).trans rfl
                              have hcz57_2 : wc.cell? ⟨gb233, 2, none⟩ = some (.int .i64 t229) := (blk_cell BK233.out 2).trans rfl
                              have hcz57_3 : wc.cell? ⟨gb233, 3, none⟩ = some (.int .i64 t230) := (blk_cell BK233.out 3).trans rfl
                              have hcz57_4 : wc.cell? ⟨gb233, 4, none⟩ = some (.int .i64 t231) := (blk_cell BK233.out 4).trans rfl
                              have hcz57_5 : wc.cell? ⟨gb233, 5, none⟩ = some (.int .i64 t232) := (blk_cell BK233.out 5).trans rfl
                              have hfz57_0 := blk_frozen BK233.out 0
                              have hfz57_1 := blk_frozen BK233.out 1
                              have hfz57_2 := blk_frozen BK233.out 2
                              have hfz57_3 := blk_frozen BK233.out 3
                              have hfz57_4 := blk_frozen BK233.out 4
                              have hfz57_5 := blk_frozen BK233.out 5
                              go_wp2_with (first | ((with_reducible refine gate_callee (f := 30) rfl ?_); refine goesL_ (some 80) rfl rfl Try.func30 (by kernel_rfl) rfl #[.int .i64 t227, .int .i64 t228, .int .i64 t229, .int .i64 x15_16, .int .i64 x16_16] rfl (by (try simp only [List.map_toArray, List.map_cons, List.map_nil]); first | done | rfl | (simp only [List.length_drop, List.length_take]; rfl)) ?_; (with_reducible refine (interlocutorref1_Add.calls kj16 t227 t228 t229 x15_16 x16_16 t257 t258 t259 t260 _ A43.out).mono ?_); rintro e w58 ⟨rfl, hb⟩; refine ⟨_, rfl, ?_⟩; have n0_ := Aside0.mk (Kd.R_below (by (with_reducible repeat (first | apply Kd.R_alloc | apply Kd.R_drewN | apply Kd.R_drew)); exact HO_257001.out) hb); have n1_ := Aside0.mk (blk_below (g := gb233) (o := .cells #[.int .i64 t227, .int .i64 t228, .int .i64 t229, .int .i64 t230, .int .i64 t231, .int .i64 t232] 32 (0, 0)) (by (with_reducible repeat (first | refine blk_drewN ?_ _ | refine blk_drew ?_ | refine blk_alloc ?_ _)); exact BK233.out) hb); have n2_ := Aside0.mk (blk_below (g := gb256) (o := .cells #[.int .i64 t251, .slice Ao38 t252.length co38] 27 (0, 0)) (by (with_reducible repeat (first | refine blk_drewN ?_ _ | refine blk_drew ?_ | refine blk_alloc ?_ _)); exact BK256.out) hb); have n3_ := Aside0.mk (below_step (by repeat (first | (with_reducible first | exact HB.out | apply below_alloc | apply pw_below_drewN | apply below_drew1 | refine below_set ?_ GE233.out | refine below_set ?_ GE256.out) | exact HB.out)) hb); clear HO_257001; clear BK233; clear BK256; clear HB; have HO_257001 := n0_; have BK233 := n1_; have BK256 := n2_; have HB := n3_; clear n0_ n1_ n2_ n3_; (try clear hb); (try clear hb2); (try clear hk); (try clear hi); have hcz59_0 : w58.cell? ⟨gb256, 0, none⟩ = some (.int .i64 t251) := (blk_cell BK256.out 0).trans rfl; have hcz59_1 : w58.cell? ⟨gb256, 1, none⟩ = some (.slice Ao38 t252.length co38) := (blk_cell BK256.out 1).trans rfl; have hfz59_0 := blk_frozen BK256.out 0; have hfz59_1 := blk_frozen BK256.out 1; have p261 : 0 ≤ (0 : Int) := (by omega); have q261 : 0 < (t252.length : Int) := of_decide_eq_true (by first | (with_reducible assumption) | assumption); obtain ⟨ad261, e261, hx261_0⟩ := Kd.at_int (Kd.R_reads' HO_257001.out).2.2 0 p261 q261; cases e261; have qi261 : (0 < t252.length) = True := eq_true (by omega); (try rw [show ((0 : Int)).toNat = 0 from rfl] at hx261_0); (try rw [Addr.add_zero'] at hx261_0); replace p261 := eq_true p261; replace q261 := eq_true q261; have p262 : 0 ≤ (1 : Int) := (by omega); have q262 : 1 < (t252.length : Int) := of_decide_eq_true (by first | (with_reducible assumption) | assumption); obtain ⟨ad262, e262, hx262_0⟩ := Kd.at_int (Kd.R_reads' HO_257001.out).2.2 1 p262 q262; obtain rfl : ad261 = ad262 := (by injection e262); (try simp only [show (1 : Int).toNat = 1 from rfl, Nat.reduceMul, Nat.reduceEqDiff, Go.Addr.add, ↓reduceIte] at hx262_0); have qi262 : (1 < t252.length) = True := eq_true (by omega); (try rw [show ((1 : Int)).toNat = 1 from rfl] at hx262_0); replace p262 := eq_true p262; replace q262 := eq_true q262; have p263 : 0 ≤ (2 : Int) := (by omega); have q263 : 2 < (t252.length : Int) := of_decide_eq_true (by first | (with_reducible assumption) | assumption); obtain ⟨ad263, e263, hx263_0⟩ := Kd.at_int (Kd.R_reads' HO_257001.out).2.2 2 p263 q263; obtain rfl : ad261 = ad263 := (by injection e263); (try simp only [show (2 : Int).toNat = 2 from rfl, Nat.reduceMul, Nat.reduceEqDiff, Go.Addr.add, ↓reduceIte] at hx263_0); have qi263 : (2 < t252.length) = True := eq_true (by omega); (try rw [show ((2 : Int)).toNat = 2 from rfl] at hx263_0); replace p263 := eq_true p263; replace q263 := eq_true q263))
                              go_ret
                              exact ⟨by first | rfl | (simp [errW_none, errW_some] <;> rfl) | (simp [*, errW_none, errW_some] <;> rfl), by repeat (first | (with_reducible first | exact HB.out | apply below_alloc | apply pw_below_drewN | apply below_drew1 | refine below_set ?_ GE233.out | refine below_set ?_ GE256.out) | exact HB.out)⟩
                            · rw [if_neg c55] at H
                              exact absurd H (by simp)
                          · rw [if_neg c54] at H
                            have c54b0 : ((rd t252 1) == t258) = false := beq_eq_false_iff_ne.mpr c54
                            have c54b1 : ((rd t252 1) != t258) = true := bne_iff_ne.mpr c54
                            obtain rfl := Option.some.inj H
                            have hnb60 := NB233_256.out
                            have hnc60 := NB256_233.out
                            have hcz61_0 : wc.cell? ⟨gb233, 0, none⟩ = some (.int .i64 t227) := (blk_cell BK233.out 0).trans rfl
                            have hcz61_1 : wc.cell? ⟨gb233, 1, none⟩ = some (.int .i64 t228) := (blk_cell BK233.out 1).trans rfl
                            have hcz61_2 : wc.cell? ⟨gb233, 2, none⟩ = some (.int .i64 t229) := (blk_cell BK233.out 2).trans rfl
                            have hcz61_3 : wc.cell? ⟨gb233, 3, none⟩ = some (.int .i64 t230) := (blk_cell BK233.out 3).trans rfl
                            have hcz61_4 : wc.cell? ⟨gb233, 4, none⟩ = some (.int .i64 t231) := (blk_cell BK233.out 4).trans rfl
                            have hcz61_5 : wc.cell? ⟨gb233, 5, none⟩ = some (.int .i64 t232) := (blk_cell BK233.out 5).trans rfl
                            have hfz61_0 := blk_frozen BK233.out 0
                            have hfz61_1 := blk_frozen BK233.out 1
                            have hfz61_2 := blk_frozen BK233.out 2
                            have hfz61_3 := blk_frozen BK233.out 3
                            have hfz61_4 := blk_frozen BK233.out 4
                            have hfz61_5 := blk_frozen BK233.out 5
                            go_wp2_with (first | ((with_reducible refine gate_callee (f := 30) rfl ?_); refine goesL_ (some 80) rfl rfl Try.func30 (by kernel_rfl) rfl #[.int .i64 t227, .int .i64 t228, .int .i64 t229, .int .i64 x15_16, .int .i64 x16_16] rfl (by (try simp only [List.map_toArray, List.map_cons, List.map_nil]); first | done | rfl | (simp only [List.length_drop, List.length_take]; rfl)) ?_; (with_reducible refine (interlocutorref1_Add.calls kj16 t227 t228 t229 x15_16 x16_16 t257 t258 t259 t260 _ A43.out).mono ?_); rintro e w62 ⟨rfl, hb⟩; refine ⟨_, rfl, ?_⟩; have n0_ := Aside0.mk (Kd.R_below (by (with_reducible repeat (first | apply Kd.R_alloc | apply Kd.R_drewN | apply Kd.R_drew)); exact HO_257001.out) hb); have n1_ := Aside0.mk (blk_below (g := gb233) (o := .cells #[.int .i64 t227, .int .i64 t228, .int .i64 t229, .int .i64 t230, .int .i64 t231, .int .i64 t232] 32 (0, 0)) (by (with_reducible repeat (first | refine blk_drewN ?_ _ | refine blk_drew ?_ | refine blk_alloc ?_ _)); exact BK233.out) hb); have n2_ := Aside0.mk (blk_below (g := gb256) (o := .cells #[.int .i64 t251, .slice Ao38 t252.length co38] 27 (0, 0)) (by (with_reducible repeat (first | refine blk_drewN ?_ _ | refine blk_drew ?_ | refine blk_alloc ?_ _)); exact BK256.out) hb); have n3_ := Aside0.mk (below_step (by repeat (first | (with_reducible first | exact HB.out | apply below_alloc | apply pw_below_drewN | apply below_drew1 | refine below_set ?_ GE233.out | refine below_set ?_ GE256.out) | exact HB.out)) hb); clear HO_257001; clear BK233; clear BK256; clear HB; have HO_257001 := n0_; have BK233 := n1_; have BK256 := n2_; have HB := n3_; clear n0_ n1_ n2_ n3_; (try clear hb); (try clear hb2); (try clear hk); (try clear hi); have hcz63_0 : w62.cell? ⟨gb256, 0, none⟩ = some (.int .i64 t251) := (blk_cell BK256.out 0).trans rfl; have hcz63_1 : w62.cell? ⟨gb256, 1, none⟩ = some (.slice Ao38 t252.length co38) := (blk_cell BK256.out 1).trans rfl; have hfz63_0 := blk_frozen BK256.out 0; have hfz63_1 := blk_frozen BK256.out 1; have p261 : 0 ≤ (0 : Int) := (by omega); have q261 : 0 < (t252.length : Int) := of_decide_eq_true (by first | (with_reducible assumption) | assumption); obtain ⟨ad261, e261, hx261_0⟩ := Kd.at_int (Kd.R_reads' HO_257001.out).2.2 0 p261 q261; cases e261; have qi261 : (0 < t252.length) = True := eq_true (by omega); (try rw [show ((0 : Int)).toNat = 0 from rfl] at hx261_0); (try rw [Addr.add_zero'] at hx261_0); replace p261 := eq_true p261; replace q261 := eq_true q261; have p262 : 0 ≤ (1 : Int) := (by omega); have q262 : 1 < (t252.length : Int) := of_decide_eq_true (by first | (with_reducible assumption) | assumption); obtain ⟨ad262, e262, hx262_0⟩ := Kd.at_int (Kd.R_reads' HO_257001.out).2.2 1 p262 q262; obtain rfl : ad261 = ad262 := (by injection e262); (try simp only [show (1 : Int).toNat = 1 from rfl, Nat.reduceMul, Nat.reduceEqDiff, Go.Addr.add, ↓reduceIte] at hx262_0); have qi262 : (1 < t252.length) = True := eq_true (by omega); (try rw [show ((1 : Int)).toNat = 1 from rfl] at hx262_0); replace p262 := eq_true p262; replace q262 := eq_true q262))
                            go_ret
                            exact ⟨by first | rfl | (simp [errW_none, errW_some] <;> rfl) | (simp [*, errW_none, errW_some] <;> rfl), by repeat (first | (with_reducible first | exact HB.out | apply below_alloc | apply pw_below_drewN | apply below_drew1 | refine below_set ?_ GE233.out | refine below_set ?_ GE256.out) | exact HB.out)⟩
                        · rw [if_neg c53] at H
                          exact absurd H (by simp)
                      · rw [if_neg c52] at H
                        have c52b0 : ((rd t252 0) == t257) = false := beq_eq_false_iff_ne.mpr c52
                        have c52b1 : ((rd t252 0) != t257) = true := bne_iff_ne.mpr c52
                        obtain rfl := Option.some.inj H
                        have hnb64 := NB233_256.out
                        have hnc64 := NB256_233.out
                        have hcz65_0 : wc.cell? ⟨gb233, 0, none⟩ = some (.int .i64 t227) := (blk_cell BK233.out 0).trans rfl
                        have hcz65_1 : wc.cell? ⟨gb233, 1, none⟩ = some (.int .i64 t228) := (blk_cell BK233.out 1).trans rfl
                        have hcz65_2 : wc.cell? ⟨gb233, 2, none⟩ = some (.int .i64 t229) := (blk_cell BK233.out 2).trans rfl
                        have hcz65_3 : wc.cell? ⟨gb233, 3, none⟩ = some (.int .i64 t230) := (blk_cell BK233.out 3).trans rfl
                        have hcz65_4 : wc.cell? ⟨gb233, 4, none⟩ = some (.int .i64 t231) := (blk_cell BK233.out 4).trans rfl
                        have hcz65_5 : wc.cell? ⟨gb233, 5, none⟩ = some (.int .i64 t232) := (blk_cell BK233.out 5).trans rfl
                        have hfz65_0 := blk_frozen BK233.out 0
                        have hfz65_1 := blk_frozen BK233.out 1
                        have hfz65_2 := blk_frozen BK233.out 2
                        have hfz65_3 := blk_frozen BK233.out 3
                        have hfz65_4 := blk_frozen BK233.out 4
                        have hfz65_5 := blk_frozen BK233.out 5
                        go_wp2_with (first | ((with_reducible refine gate_callee (f := 30) rfl ?_); refine goesL_ (some 80) rfl rfl Try.func30 (by kernel_rfl) rfl #[.int .i64 t227, .int .i64 t228, .int .i64 t229, .int .i64 x15_16, .int .i64 x16_16] rfl (by (try simp only [List.map_toArray, List.map_cons, List.map_nil]); first | done | rfl | (simp only [List.length_drop, List.length_take]; rfl)) ?_; (with_reducible refine (interlocutorref1_Add.calls kj16 t227 t228 t229 x15_16 x16_16 t257 t258 t259 t260 _ A43.out).mono ?_); rintro e w66 ⟨rfl, hb⟩; refine ⟨_, rfl, ?_⟩; have n0_ := Aside0.mk (Kd.R_below (by (with_reducible repeat (first | apply Kd.R_alloc | apply Kd.R_drewN | apply Kd.R_drew)); exact HO_257001.out) hb); have n1_ := Aside0.mk (blk_below (g := gb233) (o := .cells #[.int .i64 t227, .int .i64 t228, .int .i64 t229, .int .i64 t230, .int .i64 t231, .int .i64 t232] 32 (0, 0)) (by (with_reducible repeat (first | refine blk_drewN ?_ _ | refine blk_drew ?_ | refine blk_alloc ?_ _)); exact BK233.out) hb); have n2_ := Aside0.mk (blk_below (g := gb256) (o := .cells #[.int .i64 t251, .slice Ao38 t252.length co38] 27 (0, 0)) (by (with_reducible repeat (first | refine blk_drewN ?_ _ | refine blk_drew ?_ | refine blk_alloc ?_ _)); exact BK256.out) hb); have n3_ := Aside0.mk (below_step (by repeat (first | (with_reducible first | exact HB.out | apply below_alloc | apply pw_below_drewN | apply below_drew1 | refine below_set ?_ GE233.out | refine below_set ?_ GE256.out) | exact HB.out)) hb); clear HO_257001; clear BK233; clear BK256; clear HB; have HO_257001 := n0_; have BK233 := n1_; have BK256 := n2_; have HB := n3_; clear n0_ n1_ n2_ n3_; (try clear hb); (try clear hb2); (try clear hk); (try clear hi); have hcz67_0 : w66.cell? ⟨gb256, 0, none⟩ = some (.int .i64 t251) := (blk_cell BK256.out 0).trans rfl; have hcz67_1 : w66.cell? ⟨gb256, 1, none⟩ = some (.slice Ao38 t252.length co38) := (blk_cell BK256.out 1).trans rfl; have hfz67_0 := blk_frozen BK256.out 0; have hfz67_1 := blk_frozen BK256.out 1; have p261 : 0 ≤ (0 : Int) := (by omega); have q261 : 0 < (t252.length : Int) := of_decide_eq_true (by first | (with_reducible assumption) | assumption); obtain ⟨ad261, e261, hx261_0⟩ := Kd.at_int (Kd.R_reads' HO_257001.out).2.2 0 p261 q261; cases e261; have qi261 : (0 < t252.length) = True := eq_true (by omega); (try rw [show ((0 : Int)).toNat = 0 from rfl] at hx261_0); (try rw [Addr.add_zero'] at hx261_0); replace p261 := eq_true p261; replace q261 := eq_true q261))
                        go_ret
                        exact ⟨by first | rfl | (simp [errW_none, errW_some] <;> rfl) | (simp [*, errW_none, errW_some] <;> rfl), by repeat (first | (with_reducible first | exact HB.out | apply below_alloc | apply pw_below_drewN | apply below_drew1 | refine below_set ?_ GE233.out | refine below_set ?_ GE256.out) | exact HB.out)⟩
                    · rw [if_neg c51] at H
                      exact absurd H (by simp)
                  · rw [if_neg c50] at H
                    have c50b0 : ((t252.length : Int) == 3) = false := beq_eq_false_iff_ne.mpr c50
                    have c50b1 : ((t252.length : Int) != 3) = true := bne_iff_ne.mpr c50
                    obtain rfl := Option.some.inj H
                    have hnb68 := NB233_256.out
                    have hnc68 := NB256_233.out
                    have hcz69_0 : wc.cell? ⟨gb233, 0, none⟩ = some (.int .i64 t227) := (blk_cell BK233.out 0).trans rfl
                    have hcz69_1 : wc.cell? ⟨gb233, 1, none⟩ = some (.int .i64 t228) := (blk_cell BK233.out 1).trans rfl
                    have hcz69_2 : wc.cell? ⟨gb233, 2, none⟩ = some (.int .i64 t229) := (blk_cell BK233.out 2).trans rfl
                    have hcz69_3 : wc.cell? ⟨gb233, 3, none⟩ = some (.int .i64 t230) := (blk_cell BK233.out 3).trans rfl
                    have hcz69_4 : wc.cell? ⟨gb233, 4, none⟩ = some (.int .i64 t231) := (blk_cell BK233.out 4).trans rfl
                    have hcz69_5 : wc.cell? ⟨gb233, 5, none⟩ = some (.int .i64 t232) := (blk_cell BK233.out 5).trans rfl
                    have hfz69_0 := blk_frozen BK233.out 0
                    have hfz69_1 := blk_frozen BK233.out 1
                    have hfz69_2 := blk_frozen BK233.out 2
                    have hfz69_3 := blk_frozen BK233.out 3
                    have hfz69_4 := blk_frozen BK233.out 4
                    have hfz69_5 := blk_frozen BK233.out 5
                    go_wp2_with (first | ((with_reducible refine gate_callee (f := 30) rfl ?_); refine goesL_ (some 80) rfl rfl Try.func30 (by kernel_rfl) rfl #[.int .i64 t227, .int .i64 t228, .int .i64 t229, .int .i64 x15_16, .int .i64 x16_16] rfl (by (try simp only [List.map_toArray, List.map_cons, List.map_nil]); first | done | rfl | (simp only [List.length_drop, List.length_take]; rfl)) ?_; (with_reducible refine (interlocutorref1_Add.calls kj16 t227 t228 t229 x15_16 x16_16 t257 t258 t259 t260 _ A43.out).mono ?_); rintro e w70 ⟨rfl, hb⟩; refine ⟨_, rfl, ?_⟩; have n0_ := Aside0.mk (Kd.R_below (by (with_reducible repeat (first | apply Kd.R_alloc | apply Kd.R_drewN | apply Kd.R_drew)); exact HO_257001.out) hb); have n1_ := Aside0.mk (blk_below (g := gb233) (o := .cells #[.int .i64 t227, .int .i64 t228, .int .i64 t229, .int .i64 t230, .int .i64 t231, .int .i64 t232] 32 (0, 0)) (by (with_reducible repeat (first | refine blk_drewN ?_ _ | refine blk_drew ?_ | refine blk_alloc ?_ _)); exact BK233.out) hb); have n2_ := Aside0.mk (blk_below (g := gb256) (o := .cells #[.int .i64 t251, .slice Ao38 t252.length co38] 27 (0, 0)) (by (with_reducible repeat (first | refine blk_drewN ?_ _ | refine blk_drew ?_ | refine blk_alloc ?_ _)); exact BK256.out) hb); have n3_ := Aside0.mk (below_step (by repeat (first | (with_reducible first | exact HB.out | apply below_alloc | apply pw_below_drewN | apply below_drew1 | refine below_set ?_ GE233.out | refine below_set ?_ GE256.out) | exact HB.out)) hb); clear HO_257001; clear BK233; clear BK256; clear HB; have HO_257001 := n0_; have BK233 := n1_; have BK256 := n2_; have HB := n3_; clear n0_ n1_ n2_ n3_; (try clear hb); (try clear hb2); (try clear hk); (try clear hi); have hcz71_0 : w70.cell? ⟨gb256, 0, none⟩ = some (.int .i64 t251) := (blk_cell BK256.out 0).trans rfl; have hcz71_1 : w70.cell? ⟨gb256, 1, none⟩ = some (.slice Ao38 t252.length co38) := (blk_cell BK256.out 1).trans rfl; have hfz71_0 := blk_frozen BK256.out 0; have hfz71_1 := blk_frozen BK256.out 1))
                    go_ret
                    exact ⟨by first | rfl | (simp [errW_none, errW_some] <;> rfl) | (simp [*, errW_none, errW_some] <;> rfl), by repeat (first | (with_reducible first | exact HB.out | apply below_alloc | apply pw_below_drewN | apply below_drew1 | refine below_set ?_ GE233.out | refine below_set ?_ GE256.out) | exact HB.out)⟩
                · rw [if_neg c49] at H
                  have c49b0 : (t251 == 4) = false := beq_eq_false_iff_ne.mpr c49
                  have c49b1 : (t251 != 4) = true := bne_iff_ne.mpr c49
                  obtain rfl := Option.some.inj H
                  have hnb72 := NB233_256.out
                  have hnc72 := NB256_233.out
                  have hcz73_0 : wc.cell? ⟨gb233, 0, none⟩ = some (.int .i64 t227) := (blk_cell BK233.out 0).trans rfl
                  have hcz73_1 : wc.cell? ⟨gb233, 1, none⟩ = some (.int .i64 t228) := (blk_cell BK233.out 1).trans rfl
                  have hcz73_2 : wc.cell? ⟨gb233, 2, none⟩ = some (.int .i64 t229) := (blk_cell BK233.out 2).trans rfl
                  have hcz73_3 : wc.cell? ⟨gb233, 3, none⟩ = some (.int .i64 t230) := (blk_cell BK233.out 3).trans rfl
                  have hcz73_4 : wc.cell? ⟨gb233, 4, none⟩ = some (.int .i64 t231) := (blk_cell BK233.out 4).trans rfl
                  have hcz73_5 : wc.cell? ⟨gb233, 5, none⟩ = some (.int .i64 t232) := (blk_cell BK233.out 5).trans rfl
                  have hfz73_0 := blk_frozen BK233.out 0
                  have hfz73_1 := blk_frozen BK233.out 1
                  have hfz73_2 := blk_frozen BK233.out 2
                  have hfz73_3 := blk_frozen BK233.out 3
                  have hfz73_4 := blk_frozen BK233.out 4
                  have hfz73_5 := blk_frozen BK233.out 5
                  go_wp2_with (first | ((with_reducible refine gate_callee (f := 30) rfl ?_); refine goesL_ (some 80) rfl rfl Try.func30 (by kernel_rfl) rfl #[.int .i64 t227, .int .i64 t228, .int .i64 t229, .int .i64 x15_16, .int .i64 x16_16] rfl (by (try simp only [List.map_toArray, List.map_cons, List.map_nil]); first | done | rfl | (simp only [List.length_drop, List.length_take]; rfl)) ?_; (with_reducible refine (interlocutorref1_Add.calls kj16 t227 t228 t229 x15_16 x16_16 t257 t258 t259 t260 _ A43.out).mono ?_); rintro e w74 ⟨rfl, hb⟩; refine ⟨_, rfl, ?_⟩; have n0_ := Aside0.mk (Kd.R_below (by (with_reducible repeat (first | apply Kd.R_alloc | apply Kd.R_drewN | apply Kd.R_drew)); exact HO_257001.out) hb); have n1_ := Aside0.mk (blk_below (g := gb233) (o := .cells #[.int .i64 t227, .int .i64 t228, .int .i64 t229, .int .i64 t230, .int .i64 t231, .int .i64 t232] 32 (0, 0)) (by (with_reducible repeat (first | refine blk_drewN ?_ _ | refine blk_drew ?_ | refine blk_alloc ?_ _)); exact BK233.out) hb); have n2_ := Aside0.mk (blk_below (g := gb256) (o := .cells #[.int .i64 t251, .slice Ao38 t252.length co38] 27 (0, 0)) (by (with_reducible repeat (first | refine blk_drewN ?_ _ | refine blk_drew ?_ | refine blk_alloc ?_ _)); exact BK256.out) hb); have n3_ := Aside0.mk (below_step (by repeat (first | (with_reducible first | exact HB.out | apply below_alloc | apply pw_below_drewN | apply below_drew1 | refine below_set ?_ GE233.out | refine below_set ?_ GE256.out) | exact HB.out)) hb); clear HO_257001; clear BK233; clear BK256; clear HB; have HO_257001 := n0_; have BK233 := n1_; have BK256 := n2_; have HB := n3_; clear n0_ n1_ n2_ n3_; (try clear hb); (try clear hb2); (try clear hk); (try clear hi); have hcz75_0 : w74.cell? ⟨gb256, 0, none⟩ = some (.int .i64 t251) := (blk_cell BK256.out 0).trans rfl; have hcz75_1 : w74.cell? ⟨gb256, 1, none⟩ = some (.slice Ao38 t252.length co38) := (blk_cell BK256.out 1).trans rfl; have hfz75_0 := blk_frozen BK256.out 0; have hfz75_1 := blk_frozen BK256.out 1))
                  go_ret
                  exact ⟨by first | rfl | (simp [errW_none, errW_some] <;> rfl) | (simp [*, errW_none, errW_some] <;> rfl), by repeat (first | (with_reducible first | exact HB.out | apply below_alloc | apply pw_below_drewN | apply below_drew1 | refine below_set ?_ GE233.out | refine below_set ?_ GE256.out) | exact HB.out)⟩
              · replace c48 := Bool.eq_false_iff.mpr c48
                subst c48
                have H1 : (some true) = some r := by rw [if_neg (show ¬ (false = true) by decide)] at H; exact H
                clear H
                have H := H1
                clear H1
                obtain rfl := Option.some.inj H
                have hnb76 := NB233_256.out
                have hnc76 := NB256_233.out
                have hcz77_0 : wc.cell? ⟨gb233, 0, none⟩ = some (.int .i64 t227) := (blk_cell BK233.out 0).trans rfl
                have hcz77_1 : wc.cell? ⟨gb233, 1, none⟩ = some (.int .i64 t228) := (blk_cell BK233.out 1).trans rfl
                have hcz77_2 : wc.cell? ⟨gb233, 2, none⟩ = some (.int .i64 t229) := (blk_cell BK233.out 2).trans rfl
                have hcz77_3 : wc.cell? ⟨gb233, 3, none⟩ = some (.int .i64 t230) := (blk_cell BK233.out 3).trans rfl
                have hcz77_4 : wc.cell? ⟨gb233, 4, none⟩ = some (.int .i64 t231) := (blk_cell BK233.out 4).trans rfl
                have hcz77_5 : wc.cell? ⟨gb233, 5, none⟩ = some (.int .i64 t232) := (blk_cell BK233.out 5).trans rfl
                have hfz77_0 := blk_frozen BK233.out 0
                have hfz77_1 := blk_frozen BK233.out 1
                have hfz77_2 := blk_frozen BK233.out 2
                have hfz77_3 := blk_frozen BK233.out 3
                have hfz77_4 := blk_frozen BK233.out 4
                have hfz77_5 := blk_frozen BK233.out 5
                go_wp2_with (first | ((with_reducible refine gate_callee (f := 30) rfl ?_); refine goesL_ (some 80) rfl rfl Try.func30 (by kernel_rfl) rfl #[.int .i64 t227, .int .i64 t228, .int .i64 t229, .int .i64 x15_16, .int .i64 x16_16] rfl (by (try simp only [List.map_toArray, List.map_cons, List.map_nil]); first | done | rfl | (simp only [List.length_drop, List.length_take]; rfl)) ?_; (with_reducible refine (interlocutorref1_Add.calls kj16 t227 t228 t229 x15_16 x16_16 t257 t258 t259 t260 _ A43.out).mono ?_); rintro e w78 ⟨rfl, hb⟩; refine ⟨_, rfl, ?_⟩; have n0_ := Aside0.mk (Kd.R_below (by (with_reducible repeat (first | apply Kd.R_alloc | apply Kd.R_drewN | apply Kd.R_drew)); exact HO_257001.out) hb); have n1_ := Aside0.mk (blk_below (g := gb233) (o := .cells #[.int .i64 t227, .int .i64 t228, .int .i64 t229, .int .i64 t230, .int .i64 t231, .int .i64 t232] 32 (0, 0)) (by (with_reducible repeat (first | refine blk_drewN ?_ _ | refine blk_drew ?_ | refine blk_alloc ?_ _)); exact BK233.out) hb); have n2_ := Aside0.mk (blk_below (g := gb256) (o := .cells #[.int .i64 t251, .slice Ao38 t252.length co38] 27 (0, 0)) (by (with_reducible repeat (first | refine blk_drewN ?_ _ | refine blk_drew ?_ | refine blk_alloc ?_ _)); exact BK256.out) hb); have n3_ := Aside0.mk (below_step (by repeat (first | (with_reducible first | exact HB.out | apply below_alloc | apply pw_below_drewN | apply below_drew1 | refine below_set ?_ GE233.out | refine below_set ?_ GE256.out) | exact HB.out)) hb); clear HO_257001; clear BK233; clear BK256; clear HB; have HO_257001 := n0_; have BK233 := n1_; have BK256 := n2_; have HB := n3_; clear n0_ n1_ n2_ n3_; (try clear hb); (try clear hb2); (try clear hk); (try clear hi)))
                go_ret
                exact ⟨by first | rfl | (simp [errW_none, errW_some] <;> rfl) | (simp [*, errW_none, errW_some] <;> rfl), by repeat (first | (with_reducible first | exact HB.out | apply below_alloc | apply pw_below_drewN | apply below_drew1 | refine below_set ?_ GE233.out | refine below_set ?_ GE256.out) | exact HB.out)⟩
  · replace c6 := Bool.eq_false_iff.mpr c6
    subst c6
    have H1 : (some false) = some r := by rw [if_neg (show ¬ (false = true) by decide)] at H; exact H
    clear H
    have H := H1
    clear H1
    obtain rfl := Option.some.inj H
    go_enter Try.func6, Try.ntmps6
    go_wp2_with (first | ((with_reducible refine gate_callee (f := 17) rfl ?_); refine goesL_ (some 21) rfl rfl Try.func17 (by kernel_rfl) rfl #[] rfl (by (try simp only [List.map_toArray, List.map_cons, List.map_nil]); first | done | rfl | (simp only [List.length_drop, List.length_take]; rfl)) ?_; (with_reducible refine (interlocutorlaw8_known.calls  false _ A5.out).mono ?_); rintro e w79 ⟨rfl, hb⟩; refine ⟨_, rfl, ?_⟩; have n0_ := Aside0.mk (below_step (by repeat (first | (with_reducible first | exact HB.out | apply below_alloc | apply pw_below_drewN | apply below_drew1) | exact HB.out)) hb); clear HB; have HB := n0_; clear n0_; (try clear hb); (try clear hb2); (try clear hk); (try clear hi)))
    go_ret
    exact ⟨by first | rfl | (simp [errW_none, errW_some] <;> rfl) | (simp [*, errW_none, errW_some] <;> rfl), by repeat (first | (with_reducible first | exact HB.out | apply below_alloc | apply pw_below_drewN | apply below_drew1) | exact HB.out)⟩

/-- THE ONE PURE STATEMENT of interlocutorlaw8_ActMoves: yours. -/
def interlocutorlaw8_ActMoves.Pure : Prop := ∀ (a0 : Int) (a1 : Int) (a2 : Bool) (a3 : Int), (Lit.int .i64 a0).wf = true → (Lit.int .i64 a1).wf = true → (Lit.int .i64 a3).wf = true → ∃ k, interlocutorlaw8_ActMoves.f k a0 a1 a2 a3 = some true
theorem interlocutorlaw8_ActMoves.walk (P : interlocutorlaw8_ActMoves.Pure) (a0 : Int) (a1 : Int) (a2 : Bool) (a3 : Int) (w : World) (w0 : (Lit.int .i64 a0).wf = true) (w1 : (Lit.int .i64 a1).wf = true) (w3 : (Lit.int .i64 a3).wf = true) :
    Calls Try.prog 6 #[.int .i64 a0, .int .i64 a1, .bool a2, .int .i64 a3] w fun e w' => e = .returned (.bool true) ∧ Below w.heap.size w w' := by
  obtain ⟨k, h⟩ := P a0 a1 a2 a3 w0 w1 w3
  refine (interlocutorlaw8_ActMoves.calls k a0 a1 a2 a3 true w h).mono ?_
  rintro e w' ⟨rfl, hd⟩
  exact ⟨rfl, hd⟩

end Go.Proofs.Ytldfljlklfhjkaa.PMv
