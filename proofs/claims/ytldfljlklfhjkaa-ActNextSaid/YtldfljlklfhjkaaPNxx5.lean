/- Each call of a function that is printed here answers what its plain Lean function answers; written by a program of this session (wip/myprint.py) over the kit's print. Conditions: that the plain function answers. -/
import Derived.Test.YtldfljlklfhjkaaPNxx0
import Derived.Test.YtldfljlklfhjkaaPNxx1
import Derived.Test.YtldfljlklfhjkaaPNxx4
namespace Go.Proofs.Ytldfljlklfhjkaa.PNx
open Go.RowKit Go.Proofs.YtldfljlklfhjkaaW.PrintWords Go.Proofs.YtldfljlklfhjkaaW.PrintLast Go.Proofs.YtldfljlklfhjkaaW.PrintMore
attribute [local go_sem] max2_int min2_int max_two min_two max_three min_three max_four min_four   -- for this text's walks alone
set_option linter.unusedVariables false
set_option linter.unusedSimpArgs false

/-! ### act_maker_date: function 59 -/
def act_maker_date.f (k : Nat) (a0_0 : Int) (l0_1 : List (S27)) (a0_2 : Int) (a0_3 : Int) (a0_4 : Int) (a0_5 : Int) (a0_6 : Int) (a0_7 : Int) : Option (Int × List Int) := (act_maker_number.f a0_0 l0_1 a0_2 a0_3 a0_4 a0_5 a0_6 a0_7 0).bind fun t179 => (if 0 < (l0_1.length : Int) then ((act_Year.f k ((rd_T27 l0_1 0).f0) ((rd_T27 l0_1 0).f1) a0_2 a0_3 a0_4 a0_5 a0_6 a0_7).bind fun bt181 => ((act_must.f bt181.2 a0_0).bind fun _ => ((act_maker_count.f k a0_0 l0_1 a0_2 a0_3 a0_4 a0_5 a0_6 a0_7 1).bind fun t183 => ((act_maker_number.f a0_0 l0_1 a0_2 a0_3 a0_4 a0_5 a0_6 a0_7 2).bind fun t184 => ((act_value.f 4 (([bt181.1, t183, t184] : List Int))).bind fun bt188 => (some (bt188.1, bt188.2))))))) else (none))
theorem act_maker_date.mono : ∀ a0 a1 a2 a3 a4 a5 a6 a7 k, LeO (act_maker_date.f k a0 a1 a2 a3 a4 a5 a6 a7) (act_maker_date.f (k + 1) a0 a1 a2 a3 a4 a5 a6 a7) := by
  intro a0 a1 a2 a3 a4 a5 a6 a7 k
  unfold act_maker_date.f
  repeat' first
      | (with_reducible exact act_Year.mono _ _ _ _ _ _ _ _ _)
      | (with_reducible exact act_maker_count.mono _ _ _ _ _ _ _ _ _ _)
      | (with_reducible exact LeO.refl _)
      | (with_reducible exact LeO.none _)
      | (with_reducible refine LeO.ite ?_ ?_)
      | (with_reducible refine LeO.bind ?_ (fun _ => ?_))
      | exact act_Year.mono _ _ _ _ _ _ _ _ _
      | exact act_maker_count.mono _ _ _ _ _ _ _ _ _ _
      | exact LeO.none _
      | refine LeO.ite ?_ ?_
      | refine LeO.bind ?_ (fun _ => ?_)
def act_maker_date.T2 : Bool × List (List Nat × List Nat) := (true, [([], []), ([0], [0]), ([1], [1]), ([2], [2]), ([], []), ([4], [4]), ([3, 5], [3, 5]), ([6], [6]), ([7], [7]), ([7], [7]), ([8, 6, 0, 1, 2, 3, 4, 5, 6, 7, 8], [8]), ([9, 10, 0, 1, 2, 3, 4, 5, 6, 7, 8, 9, 10], [9])])
def act_maker_date.B2 : List Nat := [0, 1, 3, 7, 0, 16, 63, 127, 255, 255, 511, 2047]
theorem act_maker_date.tab2 : rtab .any (opsOf Try.f59 2) = act_maker_date.T2 := by kernel_rfl
theorem act_maker_date.bits2 : waitsOk act_maker_date.T2.2 act_maker_date.B2 = true := by kernel_rfl
def act_maker_date.T4 : Bool × List (List Nat × List Nat) := (true, [([], []), ([], []), ([1], [1]), ([], []), ([3, 2], [3]), ([0, 2, 4], [0, 2, 4]), ([5, 4], [5]), ([6, 6, 0, 1, 2, 3, 4, 5, 6], [6])])
def act_maker_date.B4 : List Nat := [0, 0, 2, 0, 14, 31, 63, 127]
theorem act_maker_date.tab4 : rtab .any (opsOf Try.f59 4) = act_maker_date.T4 := by kernel_rfl
theorem act_maker_date.bits4 : waitsOk act_maker_date.T4.2 act_maker_date.B4 = true := by kernel_rfl
set_option maxHeartbeats 8000000 in
set_option maxRecDepth 100000 in
theorem act_maker_date.calls (k : Nat) (a0_0 : Int) (A0_1 : Option Addr) (c0_1 : Nat) (l0_1 : List (S27)) (a0_2 : Int) (a0_3 : Int) (a0_4 : Int) (a0_5 : Int) (a0_6 : Int) (a0_7 : Int) (r1 : Int) (r2 : List Int) (w : World) (hr0_1 : Kd.C k27 w A0_1 l0_1.length l0_1) (hc0_1 : l0_1.length ≤ c0_1) (h : act_maker_date.f k a0_0 l0_1 a0_2 a0_3 a0_4 a0_5 a0_6 a0_7 = some (r1, r2)) :
    Calls Try.prog 59 #[.agg #[.int .i64 a0_0, .slice A0_1 l0_1.length c0_1, .int .i64 a0_2, .int .i64 a0_3, .int .i64 a0_4, .int .i64 a0_5, .int .i64 a0_6, .int .i64 a0_7]] w fun e w' => ∃ v1_ : Value, e = .returned (.agg #[.int .i64 r1, v1_]) ∧ Kd.R (Kd.int .i64) 3 w' w.heap.size (fun _ => True) v1_ r2 ∧ Below w.heap.size w w' := by
  have hu62 := Try.underlying62
  have hu27 := Try.underlying27
  have hu32 := Try.underlying32
  have HR0_1 := Aside0.mk hr0_1
  have HC0_1 := Aside0.mk hc0_1
  clear hr0_1 hc0_1
  have HB := Aside0.mk (Below.refl w.heap.size w)
  have H : ((act_maker_number.f a0_0 l0_1 a0_2 a0_3 a0_4 a0_5 a0_6 a0_7 0).bind fun t179 => (if 0 < (l0_1.length : Int) then ((act_Year.f k ((rd_T27 l0_1 0).f0) ((rd_T27 l0_1 0).f1) a0_2 a0_3 a0_4 a0_5 a0_6 a0_7).bind fun bt181 => ((act_must.f bt181.2 a0_0).bind fun _ => ((act_maker_count.f k a0_0 l0_1 a0_2 a0_3 a0_4 a0_5 a0_6 a0_7 1).bind fun t183 => ((act_maker_number.f a0_0 l0_1 a0_2 a0_3 a0_4 a0_5 a0_6 a0_7 2).bind fun t184 => ((act_value.f 4 (([bt181.1, t183, t184] : List Int))).bind fun bt188 => (some (bt188.1, bt188.2))))))) else (none))) = some (r1, r2) := h
  clear h
  replace H := Option.bind_eq_some_iff.mp H
  obtain ⟨t179, A20, H⟩ := H
  replace H : (if 0 < (l0_1.length : Int) then ((act_Year.f k ((rd_T27 l0_1 0).f0) ((rd_T27 l0_1 0).f1) a0_2 a0_3 a0_4 a0_5 a0_6 a0_7).bind fun bt181 => ((act_must.f bt181.2 a0_0).bind fun _ => ((act_maker_count.f k a0_0 l0_1 a0_2 a0_3 a0_4 a0_5 a0_6 a0_7 1).bind fun t183 => ((act_maker_number.f a0_0 l0_1 a0_2 a0_3 a0_4 a0_5 a0_6 a0_7 2).bind fun t184 => ((act_value.f 4 (([bt181.1, t183, t184] : List Int))).bind fun bt188 => (some (bt188.1, bt188.2))))))) else (none)) = some (r1, r2) := H
  have A2 := Aside0.mk A20
  clear A20
  by_cases c3 : 0 < (l0_1.length : Int)
  · rw [if_pos c3] at H
    have c3b0 : decide (0 < (l0_1.length : Int)) = true := decide_eq_true c3
    have c3b1 : decide (0 < l0_1.length) = true := decide_eq_true (by omega)
    clear c3
    replace H := Option.bind_eq_some_iff.mp H
    obtain ⟨⟨t181, t182⟩, A40, H⟩ := H
    replace H : ((act_must.f t182 a0_0).bind fun _ => ((act_maker_count.f k a0_0 l0_1 a0_2 a0_3 a0_4 a0_5 a0_6 a0_7 1).bind fun t183 => ((act_maker_number.f a0_0 l0_1 a0_2 a0_3 a0_4 a0_5 a0_6 a0_7 2).bind fun t184 => ((act_value.f 4 (([t181, t183, t184] : List Int))).bind fun bt188 => (some (bt188.1, bt188.2)))))) = some (r1, r2) := H
    have A4 := Aside0.mk A40
    clear A40
    replace H := Option.bind_eq_some_iff.mp H
    obtain ⟨_, A50, H⟩ := H
    replace H : ((act_maker_count.f k a0_0 l0_1 a0_2 a0_3 a0_4 a0_5 a0_6 a0_7 1).bind fun t183 => ((act_maker_number.f a0_0 l0_1 a0_2 a0_3 a0_4 a0_5 a0_6 a0_7 2).bind fun t184 => ((act_value.f 4 (([t181, t183, t184] : List Int))).bind fun bt188 => (some (bt188.1, bt188.2))))) = some (r1, r2) := H
    have A5 := Aside0.mk A50
    clear A50
    replace H := Option.bind_eq_some_iff.mp H
    obtain ⟨t183, A60, H⟩ := H
    replace H : ((act_maker_number.f a0_0 l0_1 a0_2 a0_3 a0_4 a0_5 a0_6 a0_7 2).bind fun t184 => ((act_value.f 4 (([t181, t183, t184] : List Int))).bind fun bt188 => (some (bt188.1, bt188.2)))) = some (r1, r2) := H
    have A6 := Aside0.mk A60
    clear A60
    replace H := Option.bind_eq_some_iff.mp H
    obtain ⟨t184, A70, H⟩ := H
    replace H : ((act_value.f 4 (([t181, t183, t184] : List Int))).bind fun bt188 => (some (bt188.1, bt188.2))) = some (r1, r2) := H
    have A7 := Aside0.mk A70
    clear A70
    obtain ⟨y185, hy185⟩ : ∃ y_ : List Int, y_ = (([t181, t183, t184] : List Int)) := ⟨_, rfl⟩
    replace H : ((act_value.f 4 y185).bind fun bt188 => (some (bt188.1, bt188.2))) = some (r1, r2) := by first | (rw [hy185]; with_reducible exact H) | (have H2_ := (Option.bind_some _ _).symm.trans H; rw [hy185]; with_reducible exact H2_) | (have H2_ := (Option.bind_some _ _).symm.trans H; with_reducible exact H2_) | with_reducible exact H | (rw [hy185]; exact H) | exact H
    have Ny185 := Aside0.mk hy185
    clear hy185
    replace H := Option.bind_eq_some_iff.mp H
    obtain ⟨⟨t188, t189⟩, A80, H⟩ := H
    replace H : (some (t188, t189)) = some (r1, r2) := H
    have A8 := Aside0.mk A80
    clear A80
    simp only [Option.some.injEq, Prod.mk.injEq] at H
    obtain ⟨rfl, rfl⟩ := H
    go_enter Try.func59, Try.ntmps59
    try go_wp2_with (first | ((with_reducible refine gate_dst (N := 1) rfl ?_); refine box_event ?hg (N := 1) ?hd (cs := #[.int .i64 a0_0, .slice A0_1 l0_1.length c0_1, .int .i64 a0_2, .int .i64 a0_3, .int .i64 a0_4, .int .i64 a0_5, .int .i64 a0_6, .int .i64 a0_7]) (t := 62) ?hr ?_; (case hd => rfl); (case hg => rfl); (case hr => first | (go_simp; done) | (go_simp; rfl)); intro gb177 hg w9 hbox hb; have n0_ := Aside0.mk (below_step (by repeat (first | (with_reducible first | exact HB.out | apply below_alloc | apply pw_below_drewN | apply below_drew1) | exact HB.out)) hb); have n1_ := Aside0.mk (hbox); have n2_ := Aside0.mk ((by rw [hg]; exact (below_size (by repeat (first | (with_reducible first | exact HB.out | apply below_alloc | apply pw_below_drewN | apply below_drew1) | exact HB.out))) : w.heap.size ≤ gb177)); have n3_ := Aside0.mk ((by rw [hg]; exact (below_size (by repeat (first | (with_reducible first | exact HB.out | apply below_alloc | apply pw_below_drewN | apply below_drew1) | exact HB.out))) : w.heap.size ≤ gb177)); clear HB; have HB := n0_; have BK177 := n1_; have GW177 := n2_; have GE177 := n3_; clear n0_ n1_ n2_ n3_; clear hb hbox hg) | ((with_reducible refine gate_dst (N := 2) rfl ?_); refine box_event ?hg (N := 2) ?hd (cs := #[.int .i64 0, .slice none 0 0]) (t := 27) ?hr ?_; (case hd => rfl); (case hg => rfl); (case hr => first | (go_simp; done) | (go_simp; rfl)); intro gb178 hg w10 hbox hb; have n0_ := Aside0.mk (blk_below (g := gb177) (o := .cells #[.int .i64 a0_0, .slice A0_1 l0_1.length c0_1, .int .i64 a0_2, .int .i64 a0_3, .int .i64 a0_4, .int .i64 a0_5, .int .i64 a0_6, .int .i64 a0_7] 62 (0, 0)) (by (with_reducible repeat (first | refine blk_drewN ?_ _ | refine blk_drew ?_ | refine blk_alloc ?_ _)); exact BK177.out) hb); have n1_ := Aside0.mk (below_step (by repeat (first | (with_reducible first | exact HB.out | apply below_alloc | apply pw_below_drewN | apply below_drew1 | refine below_set ?_ GE177.out) | exact HB.out)) hb); have n2_ := Aside0.mk (hbox); have n3_ := Aside0.mk ((by rw [hg]; exact (below_size (by repeat (first | (with_reducible first | exact HB.out | apply below_alloc | apply pw_below_drewN | apply below_drew1 | refine below_set ?_ GE177.out) | exact HB.out))) : w.heap.size ≤ gb178)); have n4_ := Aside0.mk ((by rw [hg]; exact (below_size (by repeat (first | (with_reducible first | exact HB.out | apply below_alloc | apply pw_below_drewN | apply below_drew1 | refine below_set ?_ GE177.out) | exact HB.out))) : w.heap.size ≤ gb178)); have n5_ := Aside0.mk ((by rw [hg]; exact Nat.ne_of_lt (blk_lt (g := gb177) (o := .cells #[.int .i64 a0_0, .slice A0_1 l0_1.length c0_1, .int .i64 a0_2, .int .i64 a0_3, .int .i64 a0_4, .int .i64 a0_5, .int .i64 a0_6, .int .i64 a0_7] 62 (0, 0)) (by (with_reducible repeat (first | refine blk_drewN ?_ _ | refine blk_drew ?_ | refine blk_alloc ?_ _)); exact BK177.out)) : gb177 ≠ gb178)); have n6_ := Aside0.mk ((by rw [hg]; exact Nat.ne_of_gt (blk_lt (g := gb177) (o := .cells #[.int .i64 a0_0, .slice A0_1 l0_1.length c0_1, .int .i64 a0_2, .int .i64 a0_3, .int .i64 a0_4, .int .i64 a0_5, .int .i64 a0_6, .int .i64 a0_7] 62 (0, 0)) (by (with_reducible repeat (first | refine blk_drewN ?_ _ | refine blk_drew ?_ | refine blk_alloc ?_ _)); exact BK177.out)) : gb178 ≠ gb177)); clear BK177; clear HB; have BK177 := n0_; have HB := n1_; have BK178 := n2_; have GW178 := n3_; have GE178 := n4_; have NB177_178 := n5_; have NB178_177 := n6_; clear n0_ n1_ n2_ n3_ n4_ n5_ n6_; clear hb hbox hg; have hnb11 := NB177_178.out; have hnc11 := NB178_177.out; have hcz12_0 : w10.cell? ⟨gb177, 0, none⟩ = some (.int .i64 a0_0) := (blk_cell BK177.out 0).trans rfl; have hcz12_1 : w10.cell? ⟨gb177, 1, none⟩ = some (.slice A0_1 l0_1.length c0_1) := (blk_cell BK177.out 1).trans rfl; have hcz12_2 : w10.cell? ⟨gb177, 2, none⟩ = some (.int .i64 a0_2) := (blk_cell BK177.out 2).trans rfl; have hcz12_3 : w10.cell? ⟨gb177, 3, none⟩ = some (.int .i64 a0_3) := (blk_cell BK177.out 3).trans rfl; have hcz12_4 : w10.cell? ⟨gb177, 4, none⟩ = some (.int .i64 a0_4) := (blk_cell BK177.out 4).trans rfl; have hcz12_5 : w10.cell? ⟨gb177, 5, none⟩ = some (.int .i64 a0_5) := (blk_cell BK177.out 5).trans rfl; have hcz12_6 : w10.cell? ⟨gb177, 6, none⟩ = some (.int .i64 a0_6) := (blk_cell BK177.out 6).trans rfl; have hcz12_7 : w10.cell? ⟨gb177, 7, none⟩ = some (.int .i64 a0_7) := (blk_cell BK177.out 7).trans rfl; have hfz12_0 := blk_frozen BK177.out 0; have hfz12_1 := blk_frozen BK177.out 1; have hfz12_2 := blk_frozen BK177.out 2; have hfz12_3 := blk_frozen BK177.out 3; have hfz12_4 := blk_frozen BK177.out 4; have hfz12_5 := blk_frozen BK177.out 5; have hfz12_6 := blk_frozen BK177.out 6; have hfz12_7 := blk_frozen BK177.out 7) | ((with_reducible refine gate_callee (f := 91) rfl ?_); refine goesL_ (some 6) rfl rfl Try.func91 (by kernel_rfl) rfl #[.agg #[.int .i64 a0_0, .slice A0_1 l0_1.length c0_1, .int .i64 a0_2, .int .i64 a0_3, .int .i64 a0_4, .int .i64 a0_5, .int .i64 a0_6, .int .i64 a0_7], .int .i64 0] rfl (by (try simp only [List.map_toArray, List.map_cons, List.map_nil]); first | done | rfl | (simp only [List.length_drop, List.length_take]; rfl)) ?_; (with_reducible refine (act_maker_number.calls a0_0 _ _ l0_1 a0_2 a0_3 a0_4 a0_5 a0_6 a0_7 0 t179 _ ?side1 ?side2 A2.out).mono ?_); (case side1 => repeat (first | exact (Kd.C_below HR0_1.out HB.out) | (with_reducible refine Kd.C_alloc ?_ _) | (with_reducible refine Kd.C_drewN ?_ _) | (with_reducible refine Kd.C_drew ?_))); (case side2 => exact HC0_1.out); rintro e w13 ⟨rfl, hb⟩; refine ⟨_, rfl, ?_⟩; have n0_ := Aside0.mk (blk_below (g := gb177) (o := .cells #[.int .i64 a0_0, .slice A0_1 l0_1.length c0_1, .int .i64 a0_2, .int .i64 a0_3, .int .i64 a0_4, .int .i64 a0_5, .int .i64 a0_6, .int .i64 a0_7] 62 (0, 0)) (by (with_reducible repeat (first | refine blk_drewN ?_ _ | refine blk_drew ?_ | refine blk_alloc ?_ _)); exact BK177.out) hb); have n1_ := Aside0.mk (blk_below (g := gb178) (o := .cells #[.int .i64 0, .slice none 0 0] 27 (0, 0)) (by (with_reducible repeat (first | refine blk_drewN ?_ _ | refine blk_drew ?_ | refine blk_alloc ?_ _)); exact BK178.out) hb); have n2_ := Aside0.mk (below_step (by repeat (first | (with_reducible first | exact HB.out | apply below_alloc | apply pw_below_drewN | apply below_drew1 | refine below_set ?_ GE177.out | refine below_set ?_ GE178.out) | exact HB.out)) hb); clear BK177; clear BK178; clear HB; have BK177 := n0_; have BK178 := n1_; have HB := n2_; clear n0_ n1_ n2_; (try clear hb); (try clear hb2); (try clear hk); (try clear hi)))
    have n0_ := Aside0.mk (blk_drew BK177.out)
    have n1_ := Aside0.mk (blk_drew BK178.out)
    have n2_ := Aside0.mk (below_drew1 HB.out)
    clear BK177
    clear BK178
    clear HB
    have BK177 := n0_
    have BK178 := n1_
    have HB := n2_
    clear n0_ n1_ n2_
    have p180 : 0 ≤ (0 : Int) := (by omega)
    have q180 : 0 < (l0_1.length : Int) := of_decide_eq_true (by first | (with_reducible assumption) | assumption)
    obtain ⟨ad180, A180_1, c180_1, e180, hx180_0, hx180_1, hl180_1, hi180_1⟩ := at_T27 HR0_1.out 0 p180 q180
    have hw180_1 := hx180_1
    (try rw [show ((0 : Int)).toNat = 0 from rfl] at hw180_1)
    (try rw [show 0 * 2 = 0 from rfl] at hw180_1)
    (try rw [Addr.add_zero'] at hw180_1)
    have hw180_0 := hx180_0
    (try rw [show ((0 : Int)).toNat = 0 from rfl] at hw180_0)
    (try rw [show 0 * 2 = 0 from rfl] at hw180_0)
    (try rw [Addr.add_zero'] at hw180_0)
    cases e180
    have qi180 : (0 < l0_1.length) = True := eq_true (by omega)
    (try rw [show ((0 : Int)).toNat = 0 from rfl] at hx180_0)
    (try rw [show 0 * 2 = 0 from rfl] at hx180_0)
    (try rw [Addr.add_zero'] at hx180_0)
    (try rw [show ((0 : Int)).toNat = 0 from rfl] at hx180_1)
    (try rw [show 0 * 2 = 0 from rfl] at hx180_1)
    (try rw [Addr.add_zero'] at hx180_1)
    replace hx180_0 := (HB.out.cell (World.block_lt_of_cell? w _ hx180_0)).trans hx180_0
    replace hx180_1 := (HB.out.cell (World.block_lt_of_cell? w _ hx180_1)).trans hx180_1
    have HR180_1 := Aside0.mk hi180_1
    have HC180_1 := Aside0.mk hl180_1
    clear hi180_1 hl180_1
    replace p180 := eq_true p180
    replace q180 := eq_true q180
    refine start_ (n := 12) (S := fun w' => w'.cell? ⟨gb177, 0, none⟩ = some (.int .i64 a0_0) ∧ w'.cell? ⟨gb177, 1, none⟩ = some (.slice (some ad180) l0_1.length c0_1) ∧ w'.cell? ⟨gb177, 2, none⟩ = some (.int .i64 a0_2) ∧ w'.cell? ⟨gb177, 3, none⟩ = some (.int .i64 a0_3) ∧ w'.cell? ⟨gb177, 4, none⟩ = some (.int .i64 a0_4) ∧ w'.cell? ⟨gb177, 5, none⟩ = some (.int .i64 a0_5) ∧ w'.cell? ⟨gb177, 6, none⟩ = some (.int .i64 a0_6) ∧ w'.cell? ⟨gb177, 7, none⟩ = some (.int .i64 a0_7) ∧ w'.cell? ad180 = some (.int .i64 ((rd_T27 l0_1 0).f0)) ∧ w'.cell? ⟨ad180.block, ad180.off + 1, none⟩ = some (.slice A180_1 ((rd_T27 l0_1 0).f1).length c180_1)) (ds := []) #[false, false, false, false, false, false, false, false, false, false, false, false] (by kernel_rfl) rfl rfl ⟨(blk_cell BK177.out 0).trans rfl, (blk_cell BK177.out 1).trans rfl, (blk_cell BK177.out 2).trans rfl, (blk_cell BK177.out 3).trans rfl, (blk_cell BK177.out 4).trans rfl, (blk_cell BK177.out 5).trans rfl, (blk_cell BK177.out 6).trans rfl, (blk_cell BK177.out 7).trans rfl, ((HB.out.cell (World.block_lt_of_cell? w _ hw180_0)).trans hw180_0), ((HB.out.cell (World.block_lt_of_cell? w _ hw180_1)).trans hw180_1)⟩ (fun hHeld => ?_); refine with_tabW act_maker_date.tab2 act_maker_date.bits2 (fun HT_ HW_ => ?_)
    generalize w13.drew = w14 at BK177 BK178 HB HR180_1 hx180_0 hx180_1 hHeld ⊢
    refine pure_ (i := 0) (N := some 8) (v := ?_) (a' := ?_) #[true, false, false, false, false, false, false, false, false, false, false, false] rfl rfl (any_of HT_.out (by kernel_rfl)) (fun _ _ _ h => h) (Or.inl ⟨by rfl, ?_⟩) ?_ ?_
    rotate_left
    · intro w'
      go_simp
      with_reducible rfl
    rotate_left
    · simp only [Act.put, List.setIfInBounds_toArray, List.set_cons_zero, List.set_cons_succ, i64_w, i32_w]
      rfl
    refine pure_ (i := 4) (N := some 12) (v := ?_) (a' := ?_) #[true, false, false, false, true, false, false, false, false, false, false, false] rfl rfl (any_of HT_.out (by kernel_rfl)) (fun _ _ _ h => h) (Or.inl ⟨by rfl, ?_⟩) ?_ ?_
    rotate_left
    · intro w'
      go_simp
      with_reducible rfl
    rotate_left
    · simp only [Act.put, List.setIfInBounds_toArray, List.set_cons_zero, List.set_cons_succ, i64_w, i32_w]
      rfl
    refine take_ (i := 1) (N := some 9) (v := ?_) (a' := ?_) #[true, true, false, false, true, false, false, false, false, false, false, false] rfl rfl (take_ofW HT_.out HW_.out (by kernel_rfl)) (fun _ _ _ h => h) (Or.inl ⟨by rfl, ?_⟩) hHeld ?_ ?_
    rotate_left
    · rintro w' ⟨s0, s1, s2, s3, s4, s5, s6, s7, s8, s9⟩
      go_simp
      with_reducible rfl
    rotate_left
    · simp only [Act.put, List.setIfInBounds_toArray, List.set_cons_zero, List.set_cons_succ, i64_w, i32_w]
      rfl
    refine pure_ (i := 2) (N := some 10) (v := ?_) (a' := ?_) #[true, true, true, false, true, false, false, false, false, false, false, false] rfl rfl (any_of HT_.out (by kernel_rfl)) (fun _ _ _ h => h) (Or.inl ⟨by rfl, ?_⟩) ?_ ?_
    rotate_left
    · intro w'
      go_simp
      with_reducible rfl
    rotate_left
    · simp only [Act.put, List.setIfInBounds_toArray, List.set_cons_zero, List.set_cons_succ, i64_w, i32_w]
      rfl
    refine take_ (i := 3) (N := some 11) (v := ?_) (a' := ?_) #[true, true, true, true, true, false, false, false, false, false, false, false] rfl rfl (take_ofW HT_.out HW_.out (by kernel_rfl)) (fun _ _ _ h => h) (Or.inl ⟨by rfl, ?_⟩) hHeld ?_ ?_
    rotate_left
    · rintro w' ⟨s0, s1, s2, s3, s4, s5, s6, s7, s8, s9⟩
      go_simp
      with_reducible rfl
    rotate_left
    · simp only [Act.put, List.setIfInBounds_toArray, List.set_cons_zero, List.set_cons_succ, i64_w, i32_w]
      rfl
    refine take_ (i := 5) (N := some 13) (v := ?_) (a' := ?_) #[true, true, true, true, true, true, false, false, false, false, false, false] rfl rfl (take_ofW HT_.out HW_.out (by kernel_rfl)) (fun _ _ _ h => h) (Or.inl ⟨by rfl, ?_⟩) hHeld ?_ ?_
    rotate_left
    · rintro w' ⟨s0, s1, s2, s3, s4, s5, s6, s7, s8, s9⟩
      go_simp
      with_reducible rfl
    rotate_left
    · simp only [Act.put, List.setIfInBounds_toArray, List.set_cons_zero, List.set_cons_succ, i64_w, i32_w]
      rfl
    refine one_ (i := 6) (N := some 14) #[true, true, true, true, true, true, true, false, false, false, false, false] rfl rfl (one_of HT_.out (by kernel_rfl)) (by decide) (fun K hK => ?_)
    refine goes_ Try.func36 (by kernel_rfl) rfl #[.agg #[.int .i64 ((rd_T27 l0_1 0).f0), .slice A180_1 ((rd_T27 l0_1 0).f1).length c180_1], .agg #[.int .i64 a0_2, .int .i64 a0_3, .int .i64 a0_4, .int .i64 a0_5, .int .i64 a0_6, .int .i64 a0_7]] (by rfl) rfl rfl (by (try simp only [List.map_toArray, List.map_cons, List.map_nil]); first | done | rfl | (simp only [List.length_drop, List.length_take]; rfl)) ?_
    with_reducible refine (act_Year.calls k ((rd_T27 l0_1 0).f0) _ _ ((rd_T27 l0_1 0).f1) a0_2 a0_3 a0_4 a0_5 a0_6 a0_7 t181 t182 _ ?side1 ?side2 A4.out).mono ?_
    (case side1 => repeat (first | exact (Kd.C_below HR180_1.out HB.out) | (with_reducible refine Kd.C_alloc ?_ _) | (with_reducible refine Kd.C_drewN ?_ _) | (with_reducible refine Kd.C_drew ?_)))
    (case side2 => exact HC180_1.out)
    rintro e w15 ⟨rfl, hb⟩
    refine ⟨_, rfl, ?_⟩
    have n0_ := Aside0.mk (blk_below (g := gb177) (o := .cells #[.int .i64 a0_0, .slice (some ad180) l0_1.length c0_1, .int .i64 a0_2, .int .i64 a0_3, .int .i64 a0_4, .int .i64 a0_5, .int .i64 a0_6, .int .i64 a0_7] 62 (0, 0)) (by (with_reducible repeat (first | refine blk_drewN ?_ _ | refine blk_drew ?_ | refine blk_alloc ?_ _)); exact BK177.out) hb)
    have n1_ := Aside0.mk (blk_below (g := gb178) (o := .cells #[.int .i64 0, .slice none 0 0] 27 (0, 0)) (by (with_reducible repeat (first | refine blk_drewN ?_ _ | refine blk_drew ?_ | refine blk_alloc ?_ _)); exact BK178.out) hb)
    have n2_ := Aside0.mk (below_step (by repeat (first | (with_reducible first | exact HB.out | apply below_alloc | apply pw_below_drewN | apply below_drew1 | refine below_set ?_ GE177.out | refine below_set ?_ GE178.out) | exact HB.out)) hb)
    clear BK177
    clear BK178
    clear HB
    have BK177 := n0_
    have BK178 := n1_
    have HB := n2_
    clear n0_ n1_ n2_
    (try clear hb)
    (try clear hb2)
    (try clear hk)
    (try clear hi)
    refine hK.out _ _ ⟨(blk_cell BK177.out 0).trans rfl, (blk_cell BK177.out 1).trans rfl, (blk_cell BK177.out 2).trans rfl, (blk_cell BK177.out 3).trans rfl, (blk_cell BK177.out 4).trans rfl, (blk_cell BK177.out 5).trans rfl, (blk_cell BK177.out 6).trans rfl, (blk_cell BK177.out 7).trans rfl, ((HB.out.cell (World.block_lt_of_cell? w _ hw180_0)).trans hw180_0), ((HB.out.cell (World.block_lt_of_cell? w _ hw180_1)).trans hw180_1)⟩ (fun hHeld => ?_)
    clear hK K
    refine norm_ (a' := ?_) ?_ ?_
    rotate_left
    · show Act.put _ (some 14) _ = _
      simp only [Act.put, List.setIfInBounds_toArray, List.set_cons_zero, List.set_cons_succ, i64_w, i32_w]
      rfl
    refine pure_ (i := 7) (N := some 7) (v := ?_) (a' := ?_) #[true, true, true, true, true, true, true, true, false, false, false, false] rfl rfl (any_of HT_.out (by kernel_rfl)) (fun _ _ _ h => h) (Or.inl ⟨by rfl, ?_⟩) ?_ ?_
    rotate_left
    · intro w'
      go_simp
      with_reducible rfl
    rotate_left
    · simp only [Act.put, List.setIfInBounds_toArray, List.set_cons_zero, List.set_cons_succ, i64_w, i32_w]
      rfl
    refine pure_ (i := 8) (N := some 15) (v := ?_) (a' := ?_) #[true, true, true, true, true, true, true, true, true, false, false, false] rfl rfl (any_of HT_.out (by kernel_rfl)) (fun _ _ _ h => h) (Or.inl ⟨by rfl, ?_⟩) ?_ ?_
    rotate_left
    · intro w'
      go_simp
      with_reducible rfl
    rotate_left
    · simp only [Act.put, List.setIfInBounds_toArray, List.set_cons_zero, List.set_cons_succ, i64_w, i32_w]
      rfl
    refine pure_ (i := 9) (N := some 16) (v := ?_) (a' := ?_) #[true, true, true, true, true, true, true, true, true, true, false, false] rfl rfl (any_of HT_.out (by kernel_rfl)) (fun _ _ _ h => h) (Or.inl ⟨by rfl, ?_⟩) ?_ ?_
    rotate_left
    · intro w'
      go_simp
      with_reducible rfl
    rotate_left
    · simp only [Act.put, List.setIfInBounds_toArray, List.set_cons_zero, List.set_cons_succ, i64_w, i32_w]
      rfl
    refine pure_ (i := 10) (N := some 3) (v := ?_) (a' := ?_) #[true, true, true, true, true, true, true, true, true, true, true, false] rfl rfl (any_of HT_.out (by kernel_rfl)) (fun _ _ _ h => h) (Or.inl ⟨by rfl, ?_⟩) ?_ ?_
    rotate_left
    · intro w'
      go_simp
      with_reducible rfl
    rotate_left
    · simp only [Act.put, List.setIfInBounds_toArray, List.set_cons_zero, List.set_cons_succ, i64_w, i32_w]
      rfl
    refine pure_ (i := 11) (N := some 4) (v := ?_) (a' := ?_) #[true, true, true, true, true, true, true, true, true, true, true, true] rfl rfl (any_of HT_.out (by kernel_rfl)) (fun _ _ _ h => h) (Or.inl ⟨by rfl, ?_⟩) ?_ ?_
    rotate_left
    · intro w'
      go_simp
      with_reducible rfl
    rotate_left
    · simp only [Act.put, List.setIfInBounds_toArray, List.set_cons_zero, List.set_cons_succ, i64_w, i32_w]
      rfl
    refine done_ (done_of HT_.out (by kernel_rfl)) ?_
    have hcz16_0 : w15.cell? ⟨gb177, 0, none⟩ = some (.int .i64 a0_0) := (blk_cell BK177.out 0).trans rfl
    have hcz16_1 : w15.cell? ⟨gb177, 1, none⟩ = some (.slice (some ad180) l0_1.length c0_1) := (blk_cell BK177.out 1).trans rfl
    have hcz16_2 : w15.cell? ⟨gb177, 2, none⟩ = some (.int .i64 a0_2) := (blk_cell BK177.out 2).trans rfl
    have hcz16_3 : w15.cell? ⟨gb177, 3, none⟩ = some (.int .i64 a0_3) := (blk_cell BK177.out 3).trans rfl
    have hcz16_4 : w15.cell? ⟨gb177, 4, none⟩ = some (.int .i64 a0_4) := (blk_cell BK177.out 4).trans rfl
    have hcz16_5 : w15.cell? ⟨gb177, 5, none⟩ = some (.int .i64 a0_5) := (blk_cell BK177.out 5).trans rfl
    have hcz16_6 : w15.cell? ⟨gb177, 6, none⟩ = some (.int .i64 a0_6) := (blk_cell BK177.out 6).trans rfl
    have hcz16_7 : w15.cell? ⟨gb177, 7, none⟩ = some (.int .i64 a0_7) := (blk_cell BK177.out 7).trans rfl
    have hfz16_0 := blk_frozen BK177.out 0
    have hfz16_1 := blk_frozen BK177.out 1
    have hfz16_2 := blk_frozen BK177.out 2
    have hfz16_3 := blk_frozen BK177.out 3
    have hfz16_4 := blk_frozen BK177.out 4
    have hfz16_5 := blk_frozen BK177.out 5
    have hfz16_6 := blk_frozen BK177.out 6
    have hfz16_7 := blk_frozen BK177.out 7
    try go_wp2_with (first | ((with_reducible refine gate_callee (f := 39) rfl ?_); refine goesL_ (some 20) rfl rfl Try.func39 (by kernel_rfl) rfl #[.bool t182, .int .i64 a0_0] rfl (by (try simp only [List.map_toArray, List.map_cons, List.map_nil]); first | done | rfl | (simp only [List.length_drop, List.length_take]; rfl)) ?_; (with_reducible refine (act_must.calls t182 a0_0  _ A5.out).mono ?_); rintro e w' ⟨rfl, ⟨nd, rfl⟩⟩; refine ⟨_, rfl, ?_⟩; (try (rw [drewN_self w15]; generalize hq_ : World.drewN w15 _ = w15; have n0_ : Aside0 (w15.heap[gb177]? = some (.cells #[.int .i64 a0_0, .slice (some ad180) l0_1.length c0_1, .int .i64 a0_2, .int .i64 a0_3, .int .i64 a0_4, .int .i64 a0_5, .int .i64 a0_6, .int .i64 a0_7] 62 (0, 0))) := ⟨by rw [← hq_]; exact (by (with_reducible repeat (first | refine blk_drewN ?_ _ | refine blk_drew ?_ | refine blk_alloc ?_ _)); exact BK177.out)⟩; have n1_ : Aside0 (w15.heap[gb178]? = some (.cells #[.int .i64 0, .slice none 0 0] 27 (0, 0))) := ⟨by rw [← hq_]; exact (by (with_reducible repeat (first | refine blk_drewN ?_ _ | refine blk_drew ?_ | refine blk_alloc ?_ _)); exact BK178.out)⟩; have n2_ : Aside0 (Below w.heap.size w w15) := ⟨by rw [← hq_]; exact (by repeat (first | (with_reducible first | exact HB.out | apply below_alloc | apply pw_below_drewN | apply below_drew1 | refine below_set ?_ GE177.out | refine below_set ?_ GE178.out) | exact HB.out))⟩; clear BK177 BK178 HB hq_; have BK177 := n0_; have BK178 := n1_; have HB := n2_; clear n0_ n1_ n2_))))
    have n0_ := Aside0.mk (blk_drew BK177.out)
    have n1_ := Aside0.mk (blk_drew BK178.out)
    have n2_ := Aside0.mk (below_drew1 HB.out)
    clear BK177
    clear BK178
    clear HB
    have BK177 := n0_
    have BK178 := n1_
    have HB := n2_
    clear n0_ n1_ n2_
    refine start_ (n := 8) (S := fun w' => w'.cell? ⟨gb177, 0, none⟩ = some (.int .i64 a0_0) ∧ w'.cell? ⟨gb177, 1, none⟩ = some (.slice (some ad180) l0_1.length c0_1) ∧ w'.cell? ⟨gb177, 2, none⟩ = some (.int .i64 a0_2) ∧ w'.cell? ⟨gb177, 3, none⟩ = some (.int .i64 a0_3) ∧ w'.cell? ⟨gb177, 4, none⟩ = some (.int .i64 a0_4) ∧ w'.cell? ⟨gb177, 5, none⟩ = some (.int .i64 a0_5) ∧ w'.cell? ⟨gb177, 6, none⟩ = some (.int .i64 a0_6) ∧ w'.cell? ⟨gb177, 7, none⟩ = some (.int .i64 a0_7)) (ds := []) #[false, false, false, false, false, false, false, false] (by kernel_rfl) rfl rfl ⟨(blk_cell BK177.out 0).trans rfl, (blk_cell BK177.out 1).trans rfl, (blk_cell BK177.out 2).trans rfl, (blk_cell BK177.out 3).trans rfl, (blk_cell BK177.out 4).trans rfl, (blk_cell BK177.out 5).trans rfl, (blk_cell BK177.out 6).trans rfl, (blk_cell BK177.out 7).trans rfl⟩ (fun hHeld => ?_); refine with_tabW act_maker_date.tab4 act_maker_date.bits4 (fun HT_ HW_ => ?_)
    generalize w15.drew = w17 at BK177 BK178 HB hHeld ⊢
    refine pure_ (i := 0) (N := some 21) (v := ?_) (a' := ?_) #[true, false, false, false, false, false, false, false] rfl rfl (any_of HT_.out (by kernel_rfl)) (fun _ _ _ h => h) (Or.inl ⟨by rfl, ?_⟩) ?_ ?_
    rotate_left
    · intro w'
      go_simp
      with_reducible rfl
    rotate_left
    · simp only [Act.put, List.setIfInBounds_toArray, List.set_cons_zero, List.set_cons_succ, i64_w, i32_w]
      rfl
    refine take_ (i := 1) (N := some 22) (v := ?_) (a' := ?_) #[true, true, false, false, false, false, false, false] rfl rfl (take_ofW HT_.out HW_.out (by kernel_rfl)) (fun _ _ _ h => h) (Or.inl ⟨by rfl, ?_⟩) hHeld ?_ ?_
    rotate_left
    · rintro w' ⟨s0, s1, s2, s3, s4, s5, s6, s7⟩
      go_simp
      with_reducible rfl
    rotate_left
    · simp only [Act.put, List.setIfInBounds_toArray, List.set_cons_zero, List.set_cons_succ, i64_w, i32_w]
      rfl
    refine take_ (i := 3) (N := some 24) (v := ?_) (a' := ?_) #[true, true, false, true, false, false, false, false] rfl rfl (take_ofW HT_.out HW_.out (by kernel_rfl)) (fun _ _ _ h => h) (Or.inl ⟨by rfl, ?_⟩) hHeld ?_ ?_
    rotate_left
    · rintro w' ⟨s0, s1, s2, s3, s4, s5, s6, s7⟩
      go_simp
      with_reducible rfl
    rotate_left
    · simp only [Act.put, List.setIfInBounds_toArray, List.set_cons_zero, List.set_cons_succ, i64_w, i32_w]
      rfl
    refine one_ (i := 2) (N := some 23) #[true, true, true, true, false, false, false, false] rfl rfl (one_of HT_.out (by kernel_rfl)) (by decide) (fun K hK => ?_)
    refine goes_ Try.func92 (by kernel_rfl) rfl #[.agg #[.int .i64 a0_0, .slice (some ad180) l0_1.length c0_1, .int .i64 a0_2, .int .i64 a0_3, .int .i64 a0_4, .int .i64 a0_5, .int .i64 a0_6, .int .i64 a0_7], .int .i64 1] (by rfl) rfl rfl (by (try simp only [List.map_toArray, List.map_cons, List.map_nil]); first | done | rfl | (simp only [List.length_drop, List.length_take]; rfl)) ?_
    with_reducible refine (act_maker_count.calls k a0_0 _ _ l0_1 a0_2 a0_3 a0_4 a0_5 a0_6 a0_7 1 t183 _ ?side1 ?side2 A6.out).mono ?_
    (case side1 => repeat (first | exact (Kd.C_below HR0_1.out HB.out) | (with_reducible refine Kd.C_alloc ?_ _) | (with_reducible refine Kd.C_drewN ?_ _) | (with_reducible refine Kd.C_drew ?_)))
    (case side2 => exact HC0_1.out)
    rintro e w18 ⟨rfl, hb⟩
    refine ⟨_, rfl, ?_⟩
    have n0_ := Aside0.mk (blk_below (g := gb177) (o := .cells #[.int .i64 a0_0, .slice (some ad180) l0_1.length c0_1, .int .i64 a0_2, .int .i64 a0_3, .int .i64 a0_4, .int .i64 a0_5, .int .i64 a0_6, .int .i64 a0_7] 62 (0, 0)) (by (with_reducible repeat (first | refine blk_drewN ?_ _ | refine blk_drew ?_ | refine blk_alloc ?_ _)); exact BK177.out) hb)
    have n1_ := Aside0.mk (blk_below (g := gb178) (o := .cells #[.int .i64 0, .slice none 0 0] 27 (0, 0)) (by (with_reducible repeat (first | refine blk_drewN ?_ _ | refine blk_drew ?_ | refine blk_alloc ?_ _)); exact BK178.out) hb)
    have n2_ := Aside0.mk (below_step (by repeat (first | (with_reducible first | exact HB.out | apply below_alloc | apply pw_below_drewN | apply below_drew1 | refine below_set ?_ GE177.out | refine below_set ?_ GE178.out) | exact HB.out)) hb)
    clear BK177
    clear BK178
    clear HB
    have BK177 := n0_
    have BK178 := n1_
    have HB := n2_
    clear n0_ n1_ n2_
    (try clear hb)
    (try clear hb2)
    (try clear hk)
    (try clear hi)
    refine hK.out _ _ ⟨(blk_cell BK177.out 0).trans rfl, (blk_cell BK177.out 1).trans rfl, (blk_cell BK177.out 2).trans rfl, (blk_cell BK177.out 3).trans rfl, (blk_cell BK177.out 4).trans rfl, (blk_cell BK177.out 5).trans rfl, (blk_cell BK177.out 6).trans rfl, (blk_cell BK177.out 7).trans rfl⟩ (fun hHeld => ?_)
    clear hK K
    refine norm_ (a' := ?_) ?_ ?_
    rotate_left
    · show Act.put _ (some 23) _ = _
      simp only [Act.put, List.setIfInBounds_toArray, List.set_cons_zero, List.set_cons_succ, i64_w, i32_w]
      rfl
    refine one_ (i := 4) (N := some 25) #[true, true, true, true, true, false, false, false] rfl rfl (one_of HT_.out (by kernel_rfl)) (by decide) (fun K hK => ?_)
    refine goes_ Try.func91 (by kernel_rfl) rfl #[.agg #[.int .i64 a0_0, .slice (some ad180) l0_1.length c0_1, .int .i64 a0_2, .int .i64 a0_3, .int .i64 a0_4, .int .i64 a0_5, .int .i64 a0_6, .int .i64 a0_7], .int .i64 2] (by rfl) rfl rfl (by (try simp only [List.map_toArray, List.map_cons, List.map_nil]); first | done | rfl | (simp only [List.length_drop, List.length_take]; rfl)) ?_
    with_reducible refine (act_maker_number.calls a0_0 _ _ l0_1 a0_2 a0_3 a0_4 a0_5 a0_6 a0_7 2 t184 _ ?side1 ?side2 A7.out).mono ?_
    (case side1 => repeat (first | exact (Kd.C_below HR0_1.out HB.out) | (with_reducible refine Kd.C_alloc ?_ _) | (with_reducible refine Kd.C_drewN ?_ _) | (with_reducible refine Kd.C_drew ?_)))
    (case side2 => exact HC0_1.out)
    rintro e w19 ⟨rfl, hb⟩
    refine ⟨_, rfl, ?_⟩
    have n0_ := Aside0.mk (blk_below (g := gb177) (o := .cells #[.int .i64 a0_0, .slice (some ad180) l0_1.length c0_1, .int .i64 a0_2, .int .i64 a0_3, .int .i64 a0_4, .int .i64 a0_5, .int .i64 a0_6, .int .i64 a0_7] 62 (0, 0)) (by (with_reducible repeat (first | refine blk_drewN ?_ _ | refine blk_drew ?_ | refine blk_alloc ?_ _)); exact BK177.out) hb)
    have n1_ := Aside0.mk (blk_below (g := gb178) (o := .cells #[.int .i64 0, .slice none 0 0] 27 (0, 0)) (by (with_reducible repeat (first | refine blk_drewN ?_ _ | refine blk_drew ?_ | refine blk_alloc ?_ _)); exact BK178.out) hb)
    have n2_ := Aside0.mk (below_step (by repeat (first | (with_reducible first | exact HB.out | apply below_alloc | apply pw_below_drewN | apply below_drew1 | refine below_set ?_ GE177.out | refine below_set ?_ GE178.out) | exact HB.out)) hb)
    clear BK177
    clear BK178
    clear HB
    have BK177 := n0_
    have BK178 := n1_
    have HB := n2_
    clear n0_ n1_ n2_
    (try clear hb)
    (try clear hb2)
    (try clear hk)
    (try clear hi)
    refine hK.out _ _ ⟨(blk_cell BK177.out 0).trans rfl, (blk_cell BK177.out 1).trans rfl, (blk_cell BK177.out 2).trans rfl, (blk_cell BK177.out 3).trans rfl, (blk_cell BK177.out 4).trans rfl, (blk_cell BK177.out 5).trans rfl, (blk_cell BK177.out 6).trans rfl, (blk_cell BK177.out 7).trans rfl⟩ (fun hHeld => ?_)
    clear hK K
    refine norm_ (a' := ?_) ?_ ?_
    rotate_left
    · show Act.put _ (some 25) _ = _
      simp only [Act.put, List.setIfInBounds_toArray, List.set_cons_zero, List.set_cons_succ, i64_w, i32_w]
      rfl
    refine one_ (i := 5) (N := some 26) #[true, true, true, true, true, true, false, false] rfl rfl (one_of HT_.out (by kernel_rfl)) (by decide) (fun K hK => ?_)
    refine Kd.R_lit_step (Kd.int .i64) _ 3 ?hg (N := 26) ?hd (xs := ([t181, t183, t184] : List Int)) (inner := [.int .i64 t181, .int .i64 t183, .int .i64 t184]) (ok := fun _ => True) (okp := fun _ => True) ?hr ?hp (fun _ hk => hk) trivial (Below.refl _ _) (Nat.le_refl _) (by simp) ?_; (case hd => rfl); (case hg => rfl); (case hr => first | (go_simp; done) | (go_simp; rfl)); (case hp => exact (Reps.one (show Kd.M (Kd.int .i64) _ _ _ t181 [.int .i64 t181] from rfl) (Reps.one (show Kd.M (Kd.int .i64) _ _ _ t183 [.int .i64 t183] from rfl) (Reps.one (show Kd.M (Kd.int .i64) _ _ _ t184 [.int .i64 t184] from rfl) (Reps.none _ _)))))
    intro v186 w20 ho21 hb hg_ hnew_
    clear hg_ hnew_
    (first | rw [← Ny185.out] at ho21 | (simp only [Int.reduceToNat] at ho21; rw [← Ny185.out] at ho21))
    have n0_ := Aside0.mk (Kd.R_lower ho21 (below_size (by repeat (first | (with_reducible first | exact HB.out | apply below_alloc | apply pw_below_drewN | apply below_drew1 | refine below_set ?_ GE177.out | refine below_set ?_ GE178.out) | exact HB.out))))
    have n1_ := Aside0.mk (blk_below (g := gb177) (o := .cells #[.int .i64 a0_0, .slice (some ad180) l0_1.length c0_1, .int .i64 a0_2, .int .i64 a0_3, .int .i64 a0_4, .int .i64 a0_5, .int .i64 a0_6, .int .i64 a0_7] 62 (0, 0)) (by (with_reducible repeat (first | refine blk_drewN ?_ _ | refine blk_drew ?_ | refine blk_alloc ?_ _)); exact BK177.out) hb)
    have n2_ := Aside0.mk (blk_below (g := gb178) (o := .cells #[.int .i64 0, .slice none 0 0] 27 (0, 0)) (by (with_reducible repeat (first | refine blk_drewN ?_ _ | refine blk_drew ?_ | refine blk_alloc ?_ _)); exact BK178.out) hb)
    have n3_ := Aside0.mk (below_step (by repeat (first | (with_reducible first | exact HB.out | apply below_alloc | apply pw_below_drewN | apply below_drew1 | refine below_set ?_ GE177.out | refine below_set ?_ GE178.out) | exact HB.out)) hb)
    clear BK177
    clear BK178
    clear HB
    have HO187 := n0_
    have BK177 := n1_
    have BK178 := n2_
    have HB := n3_
    clear n0_ n1_ n2_ n3_
    clear hb ho21
    obtain ⟨Ao22, co22, eo22⟩ := Kd.R_slice HO187.out
    (first | subst eo22 | (injection eo22 with f1_ f2_ f3_; have f4_ := f1_.symm; have f5_ := f3_.symm; clear f1_ f2_ f3_; subst f4_; subst f5_))
    refine hK.out _ _ ⟨(blk_cell BK177.out 0).trans rfl, (blk_cell BK177.out 1).trans rfl, (blk_cell BK177.out 2).trans rfl, (blk_cell BK177.out 3).trans rfl, (blk_cell BK177.out 4).trans rfl, (blk_cell BK177.out 5).trans rfl, (blk_cell BK177.out 6).trans rfl, (blk_cell BK177.out 7).trans rfl⟩ (fun hHeld => ?_)
    clear hK K
    refine norm_ (a' := ?_) ?_ ?_
    rotate_left
    · show Act.put _ (some 26) _ = _
      simp only [Act.put, List.setIfInBounds_toArray, List.set_cons_zero, List.set_cons_succ, i64_w, i32_w]
      rfl
    refine one_ (i := 6) (N := some 27) #[true, true, true, true, true, true, true, false] rfl rfl (one_of HT_.out (by kernel_rfl)) (by decide) (fun K hK => ?_)
    refine goes_ Try.func40 (by kernel_rfl) rfl #[.int .i64 4, .slice Ao22 y185.length co22] (by rfl) rfl rfl (by (try simp only [List.map_toArray, List.map_cons, List.map_nil]); first | done | rfl | (simp only [List.length_drop, List.length_take]; rfl)) ?_
    with_reducible refine (act_value.calls 4 _ _ y185 t188 t189 _ ?side1 ?side2 A8.out).mono ?_
    (case side1 => repeat (first | exact (Kd.R_reads' HO187.out).2.2 | (with_reducible refine Kd.C_alloc ?_ _) | (with_reducible refine Kd.C_drewN ?_ _) | (with_reducible refine Kd.C_drew ?_)))
    (case side2 => exact (Kd.R_reads' HO187.out).2.1)
    rintro e w23 ⟨v190, rfl, ho0, hb⟩
    refine ⟨_, rfl, ?_⟩
    have n0_ := Aside0.mk (Kd.R_elder' (by (with_reducible repeat (first | apply Kd.R_alloc | apply Kd.R_drewN | apply Kd.R_drew)); exact HO187.out) (Kd.R_base ho0) hb)
    have n1_ := Aside0.mk (Kd.R_lower (Kd.R_new' ho0 (Kd.R_lt (by (with_reducible repeat (first | apply Kd.R_alloc | apply Kd.R_drewN | apply Kd.R_drew)); exact HO187.out))) (below_size (by repeat (first | (with_reducible first | exact HB.out | apply below_alloc | apply pw_below_drewN | apply below_drew1 | refine below_set ?_ GE177.out | refine below_set ?_ GE178.out) | exact HB.out))))
    have n2_ := Aside0.mk (blk_below (g := gb177) (o := .cells #[.int .i64 a0_0, .slice (some ad180) l0_1.length c0_1, .int .i64 a0_2, .int .i64 a0_3, .int .i64 a0_4, .int .i64 a0_5, .int .i64 a0_6, .int .i64 a0_7] 62 (0, 0)) (by (with_reducible repeat (first | refine blk_drewN ?_ _ | refine blk_drew ?_ | refine blk_alloc ?_ _)); exact BK177.out) hb)
    have n3_ := Aside0.mk (blk_below (g := gb178) (o := .cells #[.int .i64 0, .slice none 0 0] 27 (0, 0)) (by (with_reducible repeat (first | refine blk_drewN ?_ _ | refine blk_drew ?_ | refine blk_alloc ?_ _)); exact BK178.out) hb)
    have n4_ := Aside0.mk (below_step (by repeat (first | (with_reducible first | exact HB.out | apply below_alloc | apply pw_below_drewN | apply below_drew1 | refine below_set ?_ GE177.out | refine below_set ?_ GE178.out) | exact HB.out)) hb)
    clear HO187
    clear BK177
    clear BK178
    clear HB
    have HO187 := n0_
    have HO191 := n1_
    have BK177 := n2_
    have BK178 := n3_
    have HB := n4_
    clear n0_ n1_ n2_ n3_ n4_
    (try clear hb)
    (try clear hb2)
    (try clear hk)
    (try clear hi)
    (try clear ho0)
    obtain ⟨Ao25, co25, eo25⟩ := Kd.R_slice HO191.out
    (first | subst eo25 | (injection eo25 with f1_ f2_ f3_; have f4_ := f1_.symm; have f5_ := f3_.symm; clear f1_ f2_ f3_; subst f4_; subst f5_))
    refine hK.out _ _ ⟨(blk_cell BK177.out 0).trans rfl, (blk_cell BK177.out 1).trans rfl, (blk_cell BK177.out 2).trans rfl, (blk_cell BK177.out 3).trans rfl, (blk_cell BK177.out 4).trans rfl, (blk_cell BK177.out 5).trans rfl, (blk_cell BK177.out 6).trans rfl, (blk_cell BK177.out 7).trans rfl⟩ (fun hHeld => ?_)
    clear hK K
    refine norm_ (a' := ?_) ?_ ?_
    rotate_left
    · show Act.put _ (some 27) _ = _
      simp only [Act.put, List.setIfInBounds_toArray, List.set_cons_zero, List.set_cons_succ, i64_w, i32_w]
      rfl
    refine one_ (i := 7) (N := none) #[true, true, true, true, true, true, true, true] rfl rfl (one_of HT_.out (by kernel_rfl)) (by decide) (fun K hK => ?_)
    have hs24 : w23.cell? ⟨gb178, 0, none⟩ = some (.int .i64 0) := (blk_cell BK178.out 0).trans rfl
    have hfs24 := blk_frozen BK178.out 0
    have hns24_0 := NB177_178.out
    have hms24_0 := NB178_177.out
    have hs26 : w23.cell? ⟨gb178, 1, none⟩ = some (.slice none 0 0) := (blk_cell BK178.out 1).trans rfl
    have hfs26 := blk_frozen BK178.out 1
    have hns26_0 := NB177_178.out
    have hms26_0 := NB178_177.out
    refine skip_ (w1 := ?_) (by rfl) rfl ?_ ?_
    rotate_left
    · go_simp
      rfl
    refine hK.out _ _ ⟨((cell_far (p := ⟨gb178, _, none⟩) NB177_178.out _).trans (((cell_far (p := ⟨gb178, _, none⟩) NB177_178.out _).trans (hHeld.1)))), ((cell_far (p := ⟨gb178, _, none⟩) NB177_178.out _).trans (((cell_far (p := ⟨gb178, _, none⟩) NB177_178.out _).trans (hHeld.2.1)))), ((cell_far (p := ⟨gb178, _, none⟩) NB177_178.out _).trans (((cell_far (p := ⟨gb178, _, none⟩) NB177_178.out _).trans (hHeld.2.2.1)))), ((cell_far (p := ⟨gb178, _, none⟩) NB177_178.out _).trans (((cell_far (p := ⟨gb178, _, none⟩) NB177_178.out _).trans (hHeld.2.2.2.1)))), ((cell_far (p := ⟨gb178, _, none⟩) NB177_178.out _).trans (((cell_far (p := ⟨gb178, _, none⟩) NB177_178.out _).trans (hHeld.2.2.2.2.1)))), ((cell_far (p := ⟨gb178, _, none⟩) NB177_178.out _).trans (((cell_far (p := ⟨gb178, _, none⟩) NB177_178.out _).trans (hHeld.2.2.2.2.2.1)))), ((cell_far (p := ⟨gb178, _, none⟩) NB177_178.out _).trans (((cell_far (p := ⟨gb178, _, none⟩) NB177_178.out _).trans (hHeld.2.2.2.2.2.2.1)))), ((cell_far (p := ⟨gb178, _, none⟩) NB177_178.out _).trans (((cell_far (p := ⟨gb178, _, none⟩) NB177_178.out _).trans (hHeld.2.2.2.2.2.2.2))))⟩ (fun hHeld => ?_)
    clear hK K
    refine done_ (done_of HT_.out (by kernel_rfl)) ?_
    try go_wp2
    refine bodyPost_ret (results_cell_row rfl _ _ gb178 27 #[.int .i64 t188, .slice Ao25 t189.length co25] (0, 0) _ rfl (by (with_reducible repeat (first | refine blk_drewN ?_ _ | refine blk_drew ?_ | refine blk_alloc ?_ _)); refine blk_put (cs := #[.int .i64 t188, .slice none 0 0]) ?_ 1 _ rfl; (with_reducible repeat (first | refine blk_drewN ?_ _ | refine blk_drew ?_ | refine blk_alloc ?_ _)); refine blk_put (cs := #[.int .i64 0, .slice none 0 0]) ?_ 0 _ rfl; (with_reducible repeat (first | refine blk_drewN ?_ _ | refine blk_drew ?_ | refine blk_alloc ?_ _)); exact BK178.out) Try.underlying27 rfl (by kernel_rfl)) rfl ?_
    exact ⟨_, by first | rfl | (simp [errW_none, errW_some] <;> rfl) | (simp [*, errW_none, errW_some] <;> rfl), by (with_reducible repeat (first | apply Kd.R_alloc | apply Kd.R_drewN | apply Kd.R_drew)); exact Kd.R_mono (Kd.R_far (p := ⟨gb178, 1, none⟩) (Kd.R_far (p := ⟨gb178, 0, none⟩) (Kd.R_types HO191.out BK178.out (by decide)) (fun _ hk => hk.2) (.int .i64 t188)) (fun _ hk => hk.2) (.slice Ao25 t189.length co25)) (fun _ hk => trivial), by repeat (first | (with_reducible first | exact HB.out | apply below_alloc | apply pw_below_drewN | apply below_drew1 | refine below_set ?_ GE177.out | refine below_set ?_ GE178.out) | exact HB.out)⟩
  · rw [if_neg c3] at H
    exact absurd H (by simp)

/-! ### civil_floor: function 111 -/
def civil_floor.f (a0 : Int) (a1 : Int) : Option (Int × Int) := if a1 = 0 then (none) else (if (Int.tmod a0 a1) < 0 then (some (wrap64 ((wrap64 (Int.tdiv a0 a1)) - 1), wrap64 ((Int.tmod a0 a1) + a1))) else (some (wrap64 (Int.tdiv a0 a1), Int.tmod a0 a1)))
set_option maxHeartbeats 8000000 in
set_option maxRecDepth 100000 in
theorem civil_floor.calls (a0 : Int) (a1 : Int) (r1 : Int) (r2 : Int) (w : World) (h : civil_floor.f a0 a1 = some (r1, r2)) :
    Calls Try.prog 111 #[.int .i64 a0, .int .i64 a1] w fun e w' => e = .returned (.tuple #[.int .i64 r1, .int .i64 r2]) ∧ Drawn0 w w' := by
  have H : (if a1 = 0 then (none) else (if (Int.tmod a0 a1) < 0 then (some (wrap64 ((wrap64 (Int.tdiv a0 a1)) - 1), wrap64 ((Int.tmod a0 a1) + a1))) else (some (wrap64 (Int.tdiv a0 a1), Int.tmod a0 a1)))) = some (r1, r2) := h
  clear h
  by_cases c3 : a1 = 0
  · rw [if_pos c3] at H
    exact absurd H (by simp)
  · rw [if_neg c3] at H
    have c3b0 : (a1 == 0) = false := beq_eq_false_iff_ne.mpr c3
    have c3b1 : (a1 != 0) = true := bne_iff_ne.mpr c3
    by_cases c4 : (Int.tmod a0 a1) < 0
    · rw [if_pos c4] at H
      have c4b0 : decide ((Int.tmod a0 a1) < 0) = true := decide_eq_true c4
      clear c4
      simp only [Option.some.injEq, Prod.mk.injEq] at H
      obtain ⟨rfl, rfl⟩ := H
      go_enter Try.func111, Try.ntmps111
      go_wp2
      repeat (go_quiet (fail); try go_wp2)
      go_ret2
      exact ⟨by first | rfl | (simp; done) | (simp [*]; done), by repeat (first | exact Drawn0.refl _ | apply Drawn0.step)⟩
    · rw [if_neg c4] at H
      have c4b0 : decide ((Int.tmod a0 a1) < 0) = false := decide_eq_false c4
      clear c4
      simp only [Option.some.injEq, Prod.mk.injEq] at H
      obtain ⟨rfl, rfl⟩ := H
      go_enter Try.func111, Try.ntmps111
      go_wp2
      repeat (go_quiet (fail); try go_wp2)
      go_ret2
      exact ⟨by first | rfl | (simp; done) | (simp [*]; done), by repeat (first | exact Drawn0.refl _ | apply Drawn0.step)⟩

theorem civil_floor_of (a b : Int) (ha : -4611686018427387904 ≤ a) (ha2 : a ≤ 4611686018427387904) (hb : 2 ≤ b) (hb2 : b ≤ 1000000) : civil_floor.f a b = some (a / b, a % b) := by
  have hq := Int.mul_ediv_add_emod a b
  have hr0 := Int.emod_nonneg a (show b ≠ 0 by omega)
  have hr1 := Int.emod_lt_of_pos a (show 0 < b by omega)
  have tq := Int.mul_tdiv_add_tmod a b
  have e1 : Int.tdiv a b = if a < 0 ∧ a % b ≠ 0 then a / b + 1 else a / b := by
    by_cases h0 : 0 ≤ a
    · rw [Int.tdiv_eq_ediv_of_nonneg h0, if_neg (by omega)]
    · rw [Int.tdiv_eq_ediv]
      by_cases hd : b ∣ a
      · rw [if_pos (Or.inr hd), if_neg (by have := Int.emod_eq_zero_of_dvd hd; omega)]; omega
      · rw [if_neg (by rintro (h | h); exact h0 h; exact hd h), if_pos ⟨by omega, fun h => hd (Int.dvd_of_emod_eq_zero h)⟩, Int.sign_eq_one_of_pos (by omega)]
  have bq : -4611686018427387904 ≤ a / b ∧ a / b ≤ 4611686018427387904 := by
    constructor
    · exact Int.le_ediv_of_mul_le (by omega) (by have := Int.mul_le_mul_of_nonneg_left (show (1:Int) ≤ b by omega) (show (0:Int) ≤ 4611686018427387904 by omega); omega)
    · exact Int.ediv_le_of_le_mul (by omega) (by have := Int.mul_le_mul_of_nonneg_left (show (1:Int) ≤ b by omega) (show (0:Int) ≤ 4611686018427387904 by omega); omega)
  unfold civil_floor.f
  rw [if_neg (by omega)]
  by_cases hc : a < 0 ∧ a % b ≠ 0
  · rw [if_pos hc] at e1
    have em : Int.tmod a b = a % b - b := by
      rw [e1, Int.mul_add] at tq
      omega
    rw [if_pos (by omega), em, e1]
    have w1 : wrap64 (a / b + 1) = a / b + 1 := by unfold wrap64; omega
    have w2 : wrap64 (a / b + 1 - 1) = a / b := by unfold wrap64; omega
    have w3 : wrap64 (a % b - b + b) = a % b := by unfold wrap64; omega
    rw [w1, w2, w3]
  · rw [if_neg hc] at e1
    have em : Int.tmod a b = a % b := by
      rw [e1] at tq
      omega
    rw [if_neg (by omega), em, e1]
    have w1 : wrap64 (a / b) = a / b := by unfold wrap64; omega
    rw [w1]



/-! ### civil_day_number: function 119 -/
theorem ret_int {k : IntKind} {a b : Int} (h : a = b) : Ending.returned (.int k a) = .returned (.int k b) := by rw [h]

/-- Days, of numbers in bounds. -/
def daysOf (y m d : Int) : Int :=
  if m ≤ 2 then (y - 1) / 400 * 146097 + (y - 1) % 400 * 365 + (y - 1) % 400 / 4 - (y - 1) % 400 / 100 + (153 * (m + 9) + 2) / 5 + d - 719469
  else y / 400 * 146097 + y % 400 * 365 + y % 400 / 4 - y % 400 / 100 + (153 * (m - 3) + 2) / 5 + d - 719469

set_option maxHeartbeats 8000000 in
set_option maxRecDepth 100000 in
theorem number_calls (a0 a1 a2 : Int) (w : World) (b1 : -1000000 ≤ a0) (b2 : a0 ≤ 1000000) (b3 : 1 ≤ a1) (b4 : a1 ≤ 12) (b5 : -1000000 ≤ a2) (b6 : a2 ≤ 1000000) :
    Calls Try.prog 119 #[.agg #[.int .i64 a0, .int .i64 a1, .int .i64 a2]] w fun e w' => e = .returned (.int .i64 (daysOf a0 a1 a2)) ∧ Below w.heap.size w w' := by
  by_cases c : a1 ≤ 2
  · have hF := Lib.hid (civil_floor_of (a0 - 1) 400 (by omega) (by omega) (by omega) (by omega))
    have hD := Lib.hid (show daysOf a0 a1 a2 = (a0 - 1) / 400 * 146097 + (a0 - 1) % 400 * 365 + (a0 - 1) % 400 / 4 - (a0 - 1) % 400 / 100 + (153 * (a1 + 9) + 2) / 5 + a2 - 719469 by unfold daysOf; rw [if_pos c])
    have hq0 : -5000 ≤ (a0 - 1) / 400 := by omega
    have hq1 : (a0 - 1) / 400 ≤ 5000 := by omega
    have hr0 : 0 ≤ (a0 - 1) % 400 := by omega
    have hr1 : (a0 - 1) % 400 < 400 := by omega
    generalize (a0 - 1) / 400 = q at *
    generalize (a0 - 1) % 400 = r at *
    go_enter Try.func119, Try.ntmps119
    go_wp2_with fail
    go_quiet (fail)
    go_wp2_with (go_at_call 111; refine (civil_floor.calls _ _ _ _ _ hF.out).mono ?_; rintro e w' ⟨rfl, ⟨nd, rfl⟩⟩)
    go_ret
    exact ⟨ret_int (by rw [hD.out]; omega), by repeat (first | exact Below.refl _ _ | apply below_alloc | apply pw_below_drewN | apply below_drew1)⟩
  · have hF := Lib.hid (civil_floor_of a0 400 (by omega) (by omega) (by omega) (by omega))
    have hD := Lib.hid (show daysOf a0 a1 a2 = a0 / 400 * 146097 + a0 % 400 * 365 + a0 % 400 / 4 - a0 % 400 / 100 + (153 * (a1 - 3) + 2) / 5 + a2 - 719469 by unfold daysOf; rw [if_neg c])
    have hq0 : -5000 ≤ a0 / 400 := by omega
    have hq1 : a0 / 400 ≤ 5000 := by omega
    have hr0 : 0 ≤ a0 % 400 := by omega
    have hr1 : a0 % 400 < 400 := by omega
    generalize a0 / 400 = q at *
    generalize a0 % 400 = r at *
    go_enter Try.func119, Try.ntmps119
    go_wp2_with fail
    go_quiet (fail)
    go_wp2_with (go_at_call 111; refine (civil_floor.calls _ _ _ _ _ hF.out).mono ?_; rintro e w' ⟨rfl, ⟨nd, rfl⟩⟩)
    go_ret
    exact ⟨ret_int (by rw [hD.out]; omega), by repeat (first | exact Below.refl _ _ | apply below_alloc | apply pw_below_drewN | apply below_drew1)⟩



/-! ### civil_on: function 112 -/
theorem ret_day {a b c a' b' c' : Int} (h : a = a' ∧ b = b' ∧ c = c') : Ending.returned (.agg #[.int .i64 a, .int .i64 b, .int .i64 c]) = .returned (.agg #[.int .i64 a', .int .i64 b', .int .i64 c']) := by
  obtain ⟨rfl, rfl, rfl⟩ := h; rfl
theorem ret_day3 {a b c a' b' c' : Int} (h : a = a' ∧ b = b' ∧ c = c') : Ending.returned (.tuple #[.int .i64 a, .int .i64 b, .int .i64 c]) = .returned (.tuple #[.int .i64 a', .int .i64 b', .int .i64 c']) := by
  obtain ⟨rfl, rfl, rfl⟩ := h; rfl

/-- Civil's parts, of a day's number: the year of the era, the day of the year, the month (0: March). -/
def yoeOf (r : Int) : Int := (r - r / 1460 + r / 36524 - r / 146096) / 365
def doyOf (r : Int) : Int := r - (365 * yoeOf r + yoeOf r / 4 - yoeOf r / 100)
def mpOf (r : Int) : Int := (5 * doyOf r + 2) / 153
def onM (r : Int) : Int := if mpOf r + 3 > 12 then mpOf r + 3 - 12 else mpOf r + 3
def onD (r : Int) : Int := doyOf r - (153 * mpOf r + 2) / 5 + 1
def onY (q r : Int) : Int := if mpOf r + 3 > 12 then yoeOf r + q * 400 + 1 else yoeOf r + q * 400
def civY (n : Int) : Int := onY ((n + 719468) / 146097) ((n + 719468) % 146097)
def civM (n : Int) : Int := onM ((n + 719468) % 146097)
def civD (n : Int) : Int := onD ((n + 719468) % 146097)
theorem doy_bd0 (r : Int) (h0 : 0 ≤ r) (h1 : r < 146097) : 0 ≤ r - (365 * yoeOf r + yoeOf r / 4 - yoeOf r / 100) ∧ r - (365 * yoeOf r + yoeOf r / 4 - yoeOf r / 100) ≤ 365 ∧ 0 ≤ yoeOf r ∧ yoeOf r ≤ 399 := by
  unfold yoeOf
  generalize hf : r / 36524 = f
  generalize hg : r / 146096 = g
  generalize he : r / 1460 = e
  generalize hb : (r - e + f - g) / 365 = b
  generalize hc : b / 4 = c
  generalize hd : b / 100 = d
  have : f = 0 ∨ f = 1 ∨ f = 2 ∨ f = 3 ∨ f = 4 := by omega
  rcases this with rfl | rfl | rfl | rfl | rfl
  · obtain rfl : g = 0 := by omega
    obtain rfl : d = 0 := by omega
    omega
  · obtain rfl : g = 0 := by omega
    obtain rfl : d = 1 := by omega
    omega
  · obtain rfl : g = 0 := by omega
    obtain rfl : d = 2 := by omega
    omega
  · obtain rfl : g = 0 := by omega
    obtain rfl : d = 3 := by omega
    omega
  · obtain rfl : g = 1 := by omega
    obtain rfl : d = 3 := by omega
    omega
theorem doy_bd (r : Int) (h0 : 0 ≤ r) (h1 : r < 146097) : 0 ≤ doyOf r ∧ doyOf r ≤ 365 ∧ 0 ≤ yoeOf r ∧ yoeOf r ≤ 399 := doy_bd0 r h0 h1

set_option maxHeartbeats 8000000 in
set_option maxRecDepth 100000 in
theorem on_calls (a0 : Int) (w : World) (b1 : -1000000000000 ≤ a0) (b2 : a0 ≤ 1000000000000) :
    Calls Try.prog 112 #[.int .i64 a0] w fun e w' => e = .returned (.agg #[.int .i64 (civY a0), .int .i64 (civM a0), .int .i64 (civD a0)]) ∧ Below w.heap.size w w' := by
  have hF := Lib.hid (civil_floor_of (a0 + 719468) 146097 (by omega) (by omega) (by omega) (by omega))
  have hq0 : -10000000 ≤ (a0 + 719468) / 146097 := by omega
  have hq1 : (a0 + 719468) / 146097 ≤ 10000000 := by omega
  have hr0 : 0 ≤ (a0 + 719468) % 146097 := by omega
  have hr1 : (a0 + 719468) % 146097 < 146097 := by omega
  have hY := Lib.hid (show civY a0 = onY ((a0 + 719468) / 146097) ((a0 + 719468) % 146097) from rfl)
  have hM := Lib.hid (show civM a0 = onM ((a0 + 719468) % 146097) from rfl)
  have hD := Lib.hid (show civD a0 = onD ((a0 + 719468) % 146097) from rfl)
  generalize (a0 + 719468) / 146097 = q at *
  generalize (a0 + 719468) % 146097 = r at *
  obtain ⟨hd0, hd1, hy0, hy1⟩ := doy_bd r hr0 hr1
  have hm0 : 0 ≤ mpOf r := by unfold mpOf; omega
  have hm1 : mpOf r ≤ 11 := by unfold mpOf; omega
  by_cases c : 12 < mpOf r + 3
  · have c' := Lib.hid c
    unfold mpOf doyOf yoeOf at hm0 hm1 c
    unfold doyOf yoeOf at hd0 hd1
    unfold yoeOf at hy0 hy1
    go_enter Try.func112, Try.ntmps112
    go_wp2_with (go_at_call 111; refine (civil_floor.calls _ _ _ _ _ hF.out).mono ?_; rintro e w' ⟨rfl, ⟨nd, rfl⟩⟩)
    refine bodyPost_ret (v := .agg #[_, _, _]) (by simp [results, Try.results112, go_sem]; exact ⟨rfl, rfl, rfl⟩) rfl ⟨ret_day ⟨?_, ?_, ?_⟩, by repeat (first | exact Below.refl _ _ | apply below_alloc | apply pw_below_drewN | apply below_drew1 | refine below_set ?_ (Nat.le_refl _))⟩
    · rw [hY.out, onY, if_pos c'.out]; rfl
    · rw [hM.out, onM, if_pos c'.out]; rfl
    · rw [hD.out, onD]; rfl
  · have c' := Lib.hid c
    unfold mpOf doyOf yoeOf at hm0 hm1 c
    unfold doyOf yoeOf at hd0 hd1
    unfold yoeOf at hy0 hy1
    go_enter Try.func112, Try.ntmps112
    go_wp2_with (go_at_call 111; refine (civil_floor.calls _ _ _ _ _ hF.out).mono ?_; rintro e w' ⟨rfl, ⟨nd, rfl⟩⟩)
    refine bodyPost_ret (v := .agg #[_, _, _]) (by simp [results, Try.results112, go_sem]; exact ⟨rfl, rfl, rfl⟩) rfl ⟨ret_day ⟨?_, ?_, ?_⟩, by repeat (first | exact Below.refl _ _ | apply below_alloc | apply pw_below_drewN | apply below_drew1 | refine below_set ?_ (Nat.le_refl _))⟩
    · rw [hY.out, onY, if_neg (by have := c'.out; omega)]; rfl
    · rw [hM.out, onM, if_neg (by have := c'.out; omega)]; rfl
    · rw [hD.out, onD]; rfl



/-! ### civil_Days: function 113 -/
def civil_Days.f (a0 a1 a2 : Int) : Option Int :=
  if -1000000 ≤ a0 ∧ a0 ≤ 1000000 ∧ 1 ≤ a1 ∧ a1 ≤ 12 ∧ -1000000 ≤ a2 ∧ a2 ≤ 1000000 then some (daysOf a0 a1 a2) else none
set_option maxHeartbeats 8000000 in
set_option maxRecDepth 100000 in
theorem civil_Days.calls (a0 : Int) (a1 : Int) (a2 : Int) (r : Int) (w : World) (h : civil_Days.f a0 a1 a2 = some r) :
    Calls Try.prog 113 #[.int .i64 a0, .int .i64 a1, .int .i64 a2] w fun e w' => e = .returned (.int .i64 r) ∧ Below w.heap.size w w' := by
  unfold civil_Days.f at h
  by_cases hb : -1000000 ≤ a0 ∧ a0 ≤ 1000000 ∧ 1 ≤ a1 ∧ a1 ≤ 12 ∧ -1000000 ≤ a2 ∧ a2 ≤ 1000000
  · rw [if_pos hb] at h
    obtain ⟨b1, b2, b3, b4, b5, b6⟩ := hb
    obtain rfl := Option.some.inj h
    go_enter Try.func113, Try.ntmps113
    go_wp2_with (go_at_call 119; refine (number_calls a0 a1 a2 _ b1 b2 b3 b4 b5 b6).mono ?_; rintro e w' ⟨rfl, HB⟩)
    go_ret
    exact ⟨rfl, HB⟩
  · rw [if_neg hb] at h
    cases h



/-! ### civil_Add: function 96 -/
theorem days_bd (y m d : Int) (b1 : -1000000 ≤ y) (b2 : y ≤ 1000000) (b3 : 1 ≤ m) (b4 : m ≤ 12) (b5 : -1000000 ≤ d) (b6 : d ≤ 1000000) : -400000000 ≤ daysOf y m d ∧ daysOf y m d ≤ 400000000 := by
  unfold daysOf; split <;> omega

/-- Add: the day's number, behind it. -/
def addN (y m d mo da : Int) : Int := daysOf ((12 * y + m - 1 + mo) / 12) ((12 * y + m - 1 + mo) % 12 + 1) (if d ≤ lenOf ((12 * y + m - 1 + mo) / 12) ((12 * y + m - 1 + mo) % 12 + 1) then d else lenOf ((12 * y + m - 1 + mo) / 12) ((12 * y + m - 1 + mo) % 12 + 1)) + da
def civil_Add.f (a0 a1 a2 a3 a4 : Int) : Option (Int × Int × Int × Bool) :=
  if a3 < -1000000 ∨ 1000000 < a3 ∨ a4 < -10000000 ∨ 10000000 < a4 then some (0, 0, 0, false)
  else if -100000 ≤ a0 ∧ a0 ≤ 100000 ∧ 1 ≤ a1 ∧ a1 ≤ 12 ∧ -1000000 ≤ a2 ∧ a2 ≤ 1000000 then
    (if civY (addN a0 a1 a2 a3 a4) < 1 ∨ 9999 < civY (addN a0 a1 a2 a3 a4) then some (0, 0, 0, false)
    else some (civY (addN a0 a1 a2 a3 a4), civM (addN a0 a1 a2 a3 a4), civD (addN a0 a1 a2 a3 a4), true))
  else none

set_option maxHeartbeats 8000000 in
set_option maxRecDepth 100000 in
theorem add_out (a0 a1 a2 a3 a4 : Int) (w : World) (h : a3 < -1000000 ∨ 1000000 < a3 ∨ a4 < -10000000 ∨ 10000000 < a4) :
    Calls Try.prog 96 #[.int .i64 a0, .int .i64 a1, .int .i64 a2, .int .i64 a3, .int .i64 a4] w fun e w' => e = .returned (.tuple #[.int .i64 0, .int .i64 0, .int .i64 0, .bool false]) ∧ Below w.heap.size w w' := by
  by_cases h1 : a3 < -1000000
  · clear h
    go_enter Try.func96, Try.ntmps96
    go_wp2_with fail
    refine bodyPost_ret (results_list (rs := [.tmp 10, .tmp 11, .tmp 12, .tmp 13]) rfl (by simp) (.tmp (.tmp (.tmp (.tmp .nil))))) rfl ?_
    exact ⟨rfl, Below.refl _ _⟩
  · by_cases h2 : 1000000 < a3
    · clear h
      go_enter Try.func96, Try.ntmps96
      go_wp2_with fail
      refine bodyPost_ret (results_list (rs := [.tmp 10, .tmp 11, .tmp 12, .tmp 13]) rfl (by simp) (.tmp (.tmp (.tmp (.tmp .nil))))) rfl ?_
      exact ⟨rfl, Below.refl _ _⟩
    · by_cases h3 : a4 < -10000000
      · clear h
        go_enter Try.func96, Try.ntmps96
        go_wp2_with fail
        refine bodyPost_ret (results_list (rs := [.tmp 10, .tmp 11, .tmp 12, .tmp 13]) rfl (by simp) (.tmp (.tmp (.tmp (.tmp .nil))))) rfl ?_
        exact ⟨rfl, Below.refl _ _⟩
      · have h4 : 10000000 < a4 := by omega
        clear h
        go_enter Try.func96, Try.ntmps96
        go_wp2_with fail
        refine bodyPost_ret (results_list (rs := [.tmp 10, .tmp 11, .tmp 12, .tmp 13]) rfl (by simp) (.tmp (.tmp (.tmp (.tmp .nil))))) rfl ?_
        exact ⟨rfl, Below.refl _ _⟩

/-- What Add answers, of the day that is come to. -/
def addV (Y M D : Int) : Value := if Y < 1 ∨ 9999 < Y then .tuple #[.int .i64 0, .int .i64 0, .int .i64 0, .bool false] else .tuple #[.int .i64 Y, .int .i64 M, .int .i64 D, .bool true]

set_option maxHeartbeats 8000000 in
set_option maxRecDepth 100000 in
theorem add_in (a0 a1 a2 a3 a4 : Int) (w : World) (h1 : -1000000 ≤ a3) (h2 : a3 ≤ 1000000) (h3 : -10000000 ≤ a4) (h4 : a4 ≤ 10000000) (b1 : -100000 ≤ a0) (b2 : a0 ≤ 100000) (b3 : 1 ≤ a1) (b4 : a1 ≤ 12) (b5 : -1000000 ≤ a2) (b6 : a2 ≤ 1000000) :
    Calls Try.prog 96 #[.int .i64 a0, .int .i64 a1, .int .i64 a2, .int .i64 a3, .int .i64 a4] w fun e w' =>
      e = .returned (addV (civY (addN a0 a1 a2 a3 a4)) (civM (addN a0 a1 a2 a3 a4)) (civD (addN a0 a1 a2 a3 a4))) ∧ Below w.heap.size w w' := by
  have hF := Lib.hid (civil_floor_of (12 * a0 + a1 - 1 + a3) 12 (by omega) (by omega) (by omega) (by omega))
  have hN := Lib.hid (show addN a0 a1 a2 a3 a4 = daysOf ((12 * a0 + a1 - 1 + a3) / 12) ((12 * a0 + a1 - 1 + a3) % 12 + 1) (if a2 ≤ lenOf ((12 * a0 + a1 - 1 + a3) / 12) ((12 * a0 + a1 - 1 + a3) % 12 + 1) then a2 else lenOf ((12 * a0 + a1 - 1 + a3) / 12) ((12 * a0 + a1 - 1 + a3) % 12 + 1)) + a4 from rfl)
  have hq0 : -200000 ≤ (12 * a0 + a1 - 1 + a3) / 12 := by omega
  have hq1 : (12 * a0 + a1 - 1 + a3) / 12 ≤ 200000 := by omega
  have hr0 : 0 ≤ (12 * a0 + a1 - 1 + a3) % 12 := by omega
  have hr1 : (12 * a0 + a1 - 1 + a3) % 12 < 12 := by omega
  generalize (12 * a0 + a1 - 1 + a3) / 12 = q at *
  generalize (12 * a0 + a1 - 1 + a3) % 12 = r at *
  have hL := Lib.hid (length_of q (r + 1))
  obtain ⟨hl0, hl1⟩ := len_bd q (r + 1)
  generalize lenOf q (r + 1) = L at *
  generalize addN a0 a1 a2 a3 a4 = N at *
  by_cases c : a2 ≤ L
  · have hN1 := Lib.hid (show N = daysOf q (r + 1) a2 + a4 by rw [hN.out, if_pos c])
    clear hN
    have hD := Lib.hid (show civil_Days.f q (r + 1) a2 = some (daysOf q (r + 1) a2) by unfold civil_Days.f; rw [if_pos ⟨by omega, by omega, by omega, by omega, by omega, by omega⟩])
    obtain ⟨hk0, hk1⟩ := days_bd q (r + 1) a2 (by omega) (by omega) (by omega) (by omega) (by omega) (by omega)
    generalize daysOf q (r + 1) a2 = k at *
    obtain rfl := hN1.out
    clear hN1
    have hO := fun w => Lib.hid (on_calls (k + a4) w (by omega) (by omega))
    generalize civY (k + a4) = Y at *
    generalize civM (k + a4) = M at *
    generalize civD (k + a4) = D at *
    by_cases hY1 : Y < 1
    · have hV := Lib.hid (show addV Y M D = .tuple #[.int .i64 0, .int .i64 0, .int .i64 0, .bool false] by unfold addV; rw [if_pos (Or.inl hY1)])
      go_enter Try.func96, Try.ntmps96
      go_wp2_with (first | (go_at_call 111; refine (civil_floor.calls _ _ _ _ _ hF.out).mono ?_; rintro e w' ⟨rfl, ⟨nd, rfl⟩⟩) | (go_at_call 108; refine (civil_Length.calls _ _ _ _ hL.out).mono ?_; rintro e w' ⟨rfl, ⟨nd, rfl⟩⟩) | (go_at_call 113; refine (civil_Days.calls _ _ _ _ _ hD.out).mono ?_; rintro e w1 ⟨rfl, HB1⟩) | (go_at_call 112; refine (hO _).out.mono ?_; rintro e w2 ⟨rfl, HB2⟩))
      refine bodyPost_ret (results_list (rs := [.tmp 10, .tmp 11, .tmp 12, .tmp 13]) rfl (by simp) (.tmp (.tmp (.tmp (.tmp .nil))))) rfl ?_
      exact ⟨congrArg Ending.returned (by rw [hV.out]; rfl), by have HB := below_then (below_then (pw_below_drewN (Below.refl _ _) _) (Nat.le_refl _) HB1) HB1.size HB2; repeat (first | exact HB | apply below_alloc | apply pw_below_drewN | apply below_drew1 | refine below_set ?_ HB.size)⟩
    · by_cases hY2 : 9999 < Y
      · have hV := Lib.hid (show addV Y M D = .tuple #[.int .i64 0, .int .i64 0, .int .i64 0, .bool false] by unfold addV; rw [if_pos (Or.inr hY2)])
        go_enter Try.func96, Try.ntmps96
        go_wp2_with (first | (go_at_call 111; refine (civil_floor.calls _ _ _ _ _ hF.out).mono ?_; rintro e w' ⟨rfl, ⟨nd, rfl⟩⟩) | (go_at_call 108; refine (civil_Length.calls _ _ _ _ hL.out).mono ?_; rintro e w' ⟨rfl, ⟨nd, rfl⟩⟩) | (go_at_call 113; refine (civil_Days.calls _ _ _ _ _ hD.out).mono ?_; rintro e w1 ⟨rfl, HB1⟩) | (go_at_call 112; refine (hO _).out.mono ?_; rintro e w2 ⟨rfl, HB2⟩))
        refine bodyPost_ret (results_list (rs := [.tmp 10, .tmp 11, .tmp 12, .tmp 13]) rfl (by simp) (.tmp (.tmp (.tmp (.tmp .nil))))) rfl ?_
        exact ⟨congrArg Ending.returned (by rw [hV.out]; rfl), by have HB := below_then (below_then (pw_below_drewN (Below.refl _ _) _) (Nat.le_refl _) HB1) HB1.size HB2; repeat (first | exact HB | apply below_alloc | apply pw_below_drewN | apply below_drew1 | refine below_set ?_ HB.size)⟩
      · have hV := Lib.hid (show addV Y M D = .tuple #[.int .i64 Y, .int .i64 M, .int .i64 D, .bool true] by unfold addV; rw [if_neg (by omega)])
        go_enter Try.func96, Try.ntmps96
        go_wp2_with (first | (go_at_call 111; refine (civil_floor.calls _ _ _ _ _ hF.out).mono ?_; rintro e w' ⟨rfl, ⟨nd, rfl⟩⟩) | (go_at_call 108; refine (civil_Length.calls _ _ _ _ hL.out).mono ?_; rintro e w' ⟨rfl, ⟨nd, rfl⟩⟩) | (go_at_call 113; refine (civil_Days.calls _ _ _ _ _ hD.out).mono ?_; rintro e w1 ⟨rfl, HB1⟩) | (go_at_call 112; refine (hO _).out.mono ?_; rintro e w2 ⟨rfl, HB2⟩))
        go_quiet (fail)
        go_wp2_with fail
        refine bodyPost_ret (results_list (rs := [.tmp 10, .tmp 11, .tmp 12, .tmp 13]) rfl (by simp) (.tmp (.tmp (.tmp (.tmp .nil))))) rfl ?_
        exact ⟨congrArg Ending.returned (by rw [hV.out]; rfl), by have HB := below_then (below_then (pw_below_drewN (Below.refl _ _) _) (Nat.le_refl _) HB1) HB1.size HB2; repeat (first | exact HB | apply below_alloc | apply pw_below_drewN | apply below_drew1 | refine below_set ?_ HB.size)⟩
  · have hN1 := Lib.hid (show N = daysOf q (r + 1) L + a4 by rw [hN.out, if_neg c])
    clear hN
    have hD := Lib.hid (show civil_Days.f q (r + 1) L = some (daysOf q (r + 1) L) by unfold civil_Days.f; rw [if_pos ⟨by omega, by omega, by omega, by omega, by omega, by omega⟩])
    obtain ⟨hk0, hk1⟩ := days_bd q (r + 1) L (by omega) (by omega) (by omega) (by omega) (by omega) (by omega)
    generalize daysOf q (r + 1) L = k at *
    obtain rfl := hN1.out
    clear hN1
    have hO := fun w => Lib.hid (on_calls (k + a4) w (by omega) (by omega))
    generalize civY (k + a4) = Y at *
    generalize civM (k + a4) = M at *
    generalize civD (k + a4) = D at *
    by_cases hY1 : Y < 1
    · have hV := Lib.hid (show addV Y M D = .tuple #[.int .i64 0, .int .i64 0, .int .i64 0, .bool false] by unfold addV; rw [if_pos (Or.inl hY1)])
      go_enter Try.func96, Try.ntmps96
      go_wp2_with (first | (go_at_call 111; refine (civil_floor.calls _ _ _ _ _ hF.out).mono ?_; rintro e w' ⟨rfl, ⟨nd, rfl⟩⟩) | (go_at_call 108; refine (civil_Length.calls _ _ _ _ hL.out).mono ?_; rintro e w' ⟨rfl, ⟨nd, rfl⟩⟩) | (go_at_call 113; refine (civil_Days.calls _ _ _ _ _ hD.out).mono ?_; rintro e w1 ⟨rfl, HB1⟩) | (go_at_call 112; refine (hO _).out.mono ?_; rintro e w2 ⟨rfl, HB2⟩))
      refine bodyPost_ret (results_list (rs := [.tmp 10, .tmp 11, .tmp 12, .tmp 13]) rfl (by simp) (.tmp (.tmp (.tmp (.tmp .nil))))) rfl ?_
      exact ⟨congrArg Ending.returned (by rw [hV.out]; rfl), by have HB := below_then (below_then (pw_below_drewN (Below.refl _ _) _) (Nat.le_refl _) HB1) HB1.size HB2; repeat (first | exact HB | apply below_alloc | apply pw_below_drewN | apply below_drew1 | refine below_set ?_ HB.size)⟩
    · by_cases hY2 : 9999 < Y
      · have hV := Lib.hid (show addV Y M D = .tuple #[.int .i64 0, .int .i64 0, .int .i64 0, .bool false] by unfold addV; rw [if_pos (Or.inr hY2)])
        go_enter Try.func96, Try.ntmps96
        go_wp2_with (first | (go_at_call 111; refine (civil_floor.calls _ _ _ _ _ hF.out).mono ?_; rintro e w' ⟨rfl, ⟨nd, rfl⟩⟩) | (go_at_call 108; refine (civil_Length.calls _ _ _ _ hL.out).mono ?_; rintro e w' ⟨rfl, ⟨nd, rfl⟩⟩) | (go_at_call 113; refine (civil_Days.calls _ _ _ _ _ hD.out).mono ?_; rintro e w1 ⟨rfl, HB1⟩) | (go_at_call 112; refine (hO _).out.mono ?_; rintro e w2 ⟨rfl, HB2⟩))
        refine bodyPost_ret (results_list (rs := [.tmp 10, .tmp 11, .tmp 12, .tmp 13]) rfl (by simp) (.tmp (.tmp (.tmp (.tmp .nil))))) rfl ?_
        exact ⟨congrArg Ending.returned (by rw [hV.out]; rfl), by have HB := below_then (below_then (pw_below_drewN (Below.refl _ _) _) (Nat.le_refl _) HB1) HB1.size HB2; repeat (first | exact HB | apply below_alloc | apply pw_below_drewN | apply below_drew1 | refine below_set ?_ HB.size)⟩
      · have hV := Lib.hid (show addV Y M D = .tuple #[.int .i64 Y, .int .i64 M, .int .i64 D, .bool true] by unfold addV; rw [if_neg (by omega)])
        go_enter Try.func96, Try.ntmps96
        go_wp2_with (first | (go_at_call 111; refine (civil_floor.calls _ _ _ _ _ hF.out).mono ?_; rintro e w' ⟨rfl, ⟨nd, rfl⟩⟩) | (go_at_call 108; refine (civil_Length.calls _ _ _ _ hL.out).mono ?_; rintro e w' ⟨rfl, ⟨nd, rfl⟩⟩) | (go_at_call 113; refine (civil_Days.calls _ _ _ _ _ hD.out).mono ?_; rintro e w1 ⟨rfl, HB1⟩) | (go_at_call 112; refine (hO _).out.mono ?_; rintro e w2 ⟨rfl, HB2⟩))
        go_quiet (fail)
        go_wp2_with fail
        refine bodyPost_ret (results_list (rs := [.tmp 10, .tmp 11, .tmp 12, .tmp 13]) rfl (by simp) (.tmp (.tmp (.tmp (.tmp .nil))))) rfl ?_
        exact ⟨congrArg Ending.returned (by rw [hV.out]; rfl), by have HB := below_then (below_then (pw_below_drewN (Below.refl _ _) _) (Nat.le_refl _) HB1) HB1.size HB2; repeat (first | exact HB | apply below_alloc | apply pw_below_drewN | apply below_drew1 | refine below_set ?_ HB.size)⟩

set_option maxHeartbeats 8000000 in
set_option maxRecDepth 100000 in
theorem civil_Add.calls (a0 : Int) (a1 : Int) (a2 : Int) (a3 : Int) (a4 : Int) (r1 : Int) (r2 : Int) (r3 : Int) (r4 : Bool) (w : World) (h : civil_Add.f a0 a1 a2 a3 a4 = some (r1, r2, r3, r4)) :
    Calls Try.prog 96 #[.int .i64 a0, .int .i64 a1, .int .i64 a2, .int .i64 a3, .int .i64 a4] w fun e w' => e = .returned (.tuple #[.int .i64 r1, .int .i64 r2, .int .i64 r3, .bool r4]) ∧ Below w.heap.size w w' := by
  unfold civil_Add.f at h
  by_cases ho : a3 < -1000000 ∨ 1000000 < a3 ∨ a4 < -10000000 ∨ 10000000 < a4
  · rw [if_pos ho] at h
    simp only [Option.some.injEq, Prod.mk.injEq] at h
    obtain ⟨rfl, rfl, rfl, rfl⟩ := h
    exact add_out a0 a1 a2 a3 a4 w ho
  · rw [if_neg ho] at h
    by_cases hb : -100000 ≤ a0 ∧ a0 ≤ 100000 ∧ 1 ≤ a1 ∧ a1 ≤ 12 ∧ -1000000 ≤ a2 ∧ a2 ≤ 1000000
    · rw [if_pos hb] at h
      obtain ⟨b1, b2, b3, b4, b5, b6⟩ := hb
      have hA := add_in a0 a1 a2 a3 a4 w (by omega) (by omega) (by omega) (by omega) b1 b2 b3 b4 b5 b6
      have e : addV (civY (addN a0 a1 a2 a3 a4)) (civM (addN a0 a1 a2 a3 a4)) (civD (addN a0 a1 a2 a3 a4)) = .tuple #[.int .i64 r1, .int .i64 r2, .int .i64 r3, .bool r4] := by
        unfold addV
        split at h <;> rename_i hc
        · simp only [Option.some.injEq, Prod.mk.injEq] at h
          obtain ⟨rfl, rfl, rfl, rfl⟩ := h
          rw [if_pos hc]
        · simp only [Option.some.injEq, Prod.mk.injEq] at h
          obtain ⟨rfl, rfl, rfl, rfl⟩ := h
          rw [if_neg hc]
      rw [e] at hA
      exact hA
    · rw [if_neg hb] at h
      cases h


/-! ### civil_Weekday: function 97 -/
def civil_Weekday.f (a0 : Int) (a1 : Int) (a2 : Int) : Option (Int) := (civil_Days.f a0 a1 a2).bind fun t192 => ((civil_floor.f (wrap64 (t192 + 3)) 7).bind fun bt193 => (some bt193.2))
set_option maxHeartbeats 8000000 in
set_option maxRecDepth 100000 in
theorem civil_Weekday.calls (a0 : Int) (a1 : Int) (a2 : Int) (r : Int) (w : World) (h : civil_Weekday.f a0 a1 a2 = some r) :
    Calls Try.prog 97 #[.int .i64 a0, .int .i64 a1, .int .i64 a2] w fun e w' => e = .returned (.int .i64 r) ∧ Below w.heap.size w w' := by
  have HB := Aside0.mk (Below.refl w.heap.size w)
  have H : ((civil_Days.f a0 a1 a2).bind fun t192 => ((civil_floor.f (wrap64 (t192 + 3)) 7).bind fun bt193 => (some bt193.2))) = some r := h
  clear h
  replace H := Option.bind_eq_some_iff.mp H
  obtain ⟨t192, A40, H⟩ := H
  replace H : ((civil_floor.f (wrap64 (t192 + 3)) 7).bind fun bt193 => (some bt193.2)) = some r := H
  have A4 := Aside0.mk A40
  clear A40
  replace H := Option.bind_eq_some_iff.mp H
  obtain ⟨⟨t193, t194⟩, A50, H⟩ := H
  replace H : (some t194) = some r := H
  have A5 := Aside0.mk A50
  clear A50
  obtain rfl := Option.some.inj H
  go_enter Try.func97, Try.ntmps97
  go_wp2_with (first | ((with_reducible refine gate_callee (f := 113) rfl ?_); refine goesL_ (some 13) rfl rfl Try.func113 (by kernel_rfl) rfl #[.int .i64 a0, .int .i64 a1, .int .i64 a2] rfl (by (try simp only [List.map_toArray, List.map_cons, List.map_nil]); first | done | rfl | (simp only [List.length_drop, List.length_take]; rfl)) ?_; (with_reducible refine (civil_Days.calls a0 a1 a2 t192 _ A4.out).mono ?_); rintro e w6 ⟨rfl, hb⟩; refine ⟨_, rfl, ?_⟩; have n0_ := Aside0.mk (below_step (by repeat (first | (with_reducible first | exact HB.out | apply below_alloc | apply pw_below_drewN | apply below_drew1) | exact HB.out)) hb); clear HB; have HB := n0_; clear n0_; (try clear hb); (try clear hb2); (try clear hk); (try clear hi)) | ((with_reducible refine gate_callee (f := 111) rfl ?_); refine goesL_ (some 15) rfl rfl Try.func111 (by kernel_rfl) rfl #[.int .i64 (wrap64 (t192 + 3)), .int .i64 7] rfl (by (try simp only [List.map_toArray, List.map_cons, List.map_nil]); first | done | rfl | (simp only [List.length_drop, List.length_take]; rfl)) ?_; (with_reducible refine (civil_floor.calls (wrap64 (t192 + 3)) 7 t193 t194 _ A5.out).mono ?_); rintro e w' ⟨rfl, ⟨nd, rfl⟩⟩; refine ⟨_, rfl, ?_⟩))
  go_ret
  exact ⟨by first | rfl | (simp [errW_none, errW_some] <;> rfl) | (simp [*, errW_none, errW_some] <;> rfl), by repeat (first | (with_reducible first | exact HB.out | apply below_alloc | apply pw_below_drewN | apply below_drew1) | exact HB.out)⟩

end Go.Proofs.Ytldfljlklfhjkaa.PNx
