/- The document's both (a printed contract, over what the evaluator tells of Right): each call answers its plain function. Conditions: that the plain function answers. -/
import Derived.Test.YtldfljlklfhjkaaPFt2
import Derived.Test.YtldfljlklfhjkaaVWordsB
namespace Go.Proofs.Ytldfljlklfhjkaa.PE
open Go.RowKit Go.Proofs.YtldfljlklfhjkaaW.PrintWords Go.Proofs.YtldfljlklfhjkaaW.PrintLast Go.Proofs.YtldfljlklfhjkaaW.PrintMore
attribute [local go_sem] max2_int min2_int max_two min_two max_three min_three max_four min_four   -- for this text's walks alone
set_option linter.unusedVariables false
set_option linter.unusedSimpArgs false
noncomputable def interlocutorref8_Right.f (k : Nat) (a0_0 : Int) (l0_1 : List Int) : Option Bool := Ev.ref8_Right.F ⟨a0_0, l0_1⟩
theorem interlocutorref8_Right.calls (k : Nat) (a0_0 : Int) (A0_1 : Option Addr) (c0_1 : Nat) (l0_1 : List Int) (r : Bool) (w : World) (hr0_1 : Kd.C (Kd.int .i64) w A0_1 l0_1.length l0_1) (hc0_1 : l0_1.length ≤ c0_1) (h : interlocutorref8_Right.f k a0_0 l0_1 = some r) :
    Calls Try.prog 29 #[.agg #[.int .i64 a0_0, .slice A0_1 l0_1.length c0_1]] w fun e w' => e = .returned (.bool r) ∧ Below w.heap.size w w' := by
  have hs : Ev.SlI ⟨fun _ => False, fun _ => undef⟩ w (.slice A0_1 l0_1.length c0_1) l0_1 := by
    refine Ev.SlI.of_C hr0_1 hc0_1 (fun ad hl hA => ⟨?_, fun h => h⟩)
    subst hA
    obtain ⟨_, _, h3⟩ := hr0_1
    obtain ⟨ad', e, h4⟩ := h3 hl
    obtain rfl := Option.some.inj e
    obtain ⟨cs, g1, g2, g3⟩ := h4 0 _ (List.getElem?_eq_getElem hl)
    obtain rfl : cs = [.int .i64 _] := g2
    have h0 := g3 0 _ rfl
    unfold World.cell? at h0
    split at h0
    · split at h0
      · cases h0
      · rename_i hs
        cases hx : ad.spot with
        | none => rfl
        | some s => exact absurd (show (ad.add (0 * (Kd.int .i64).sz + 0)).spot.isSome = true by
            have : ad.add (0 * (Kd.int .i64).sz + 0) = ad := by show ad.add 0 = ad; simp [Addr.add]
            rw [this, hx]; rfl) hs
    · cases h0
  obtain ⟨out, ho, _, hc⟩ := Ev.ref8_Right.good.calls [.agg [.int .i64 a0_0, .ints false l0_1]] some (.ret (.one (.ce (.bool r)))) (by
    unfold Ev.sp
    rw [show (Ev.o1 Ev.s1).dec [.agg [.int .i64 a0_0, .ints false l0_1]] = some ⟨a0_0, l0_1⟩ from rfl]
    simp only [show Ev.ref8_Right.F ⟨a0_0, l0_1⟩ = some r from h]
    rfl)
  obtain rfl := Option.some.inj ho
  refine (hc ⟨fun _ => False, fun _ => undef⟩ w #[.agg #[.int .i64 a0_0, .slice A0_1 l0_1.length c0_1]] (fun _ h => h.elim) ⟨⟨#[.int .i64 a0_0, .slice A0_1 l0_1.length c0_1], rfl, rfl, ⟨hs, Ev.nofalse⟩, trivial⟩, trivial⟩).mono ?_
  rintro e W' ⟨⟨v, rfl, hv⟩, hb⟩
  exact ⟨by rw [show v = .bool r from hv], hb⟩
/-! ### interlocutorref8_both: function 77 -/
def interlocutorref8_both.j0 : Nat → List (S27) → Int → Bool → Option (Int × List Int × Bool)
  | 0, _, _, _ => none
  | k + 1, x0, x3, x37 => if x37 = true then (some (0, ([] : List Int), false)) else ((some (([] : List Int) : List Int)).bind fun y182 => (if 0 < (x0.length : Int) then (if y182.length + ((rd_T27 x0 0).f1).length < 17592186044416 then ((some (y182 ++ ((rd_T27 x0 0).f1) : List Int)).bind fun y186 => (if 1 < (x0.length : Int) then (if y186.length + ((rd_T27 x0 1).f1).length < 17592186044416 then (some (x3, (y186 ++ ((rd_T27 x0 1).f1)), true)) else (none)) else (none))) else (none)) else (none)))
noncomputable def interlocutorref8_both.f (k : Nat) (l0 : List (S27)) (a1 : Int) (a2 : Int) (a3 : Int) : Option (Int × List Int × Bool) := if 0 < (l0.length : Int) then (if ((rd_T27 l0 0).f0) = a1 then (if 1 < (l0.length : Int) then (if ((rd_T27 l0 1).f0) = a2 then ((interlocutorref8_Right.f k ((rd_T27 l0 0).f0) ((rd_T27 l0 0).f1)).bind fun t179 => (if t179 = true then ((interlocutorref8_Right.f k ((rd_T27 l0 1).f0) ((rd_T27 l0 1).f1)).bind fun t181 => (interlocutorref8_both.j0 k l0 a3 (!t181))) else (interlocutorref8_both.j0 k l0 a3 true))) else (interlocutorref8_both.j0 k l0 a3 true)) else (none)) else (interlocutorref8_both.j0 k l0 a3 true)) else (none)
def interlocutorref8_both.T3 : Bool × List (List Nat × List Nat) := (true, [([], []), ([], []), ([], []), ([2], [2]), ([3], [3]), ([4], [4]), ([1, 5], [1, 5]), ([], []), ([7], [7]), ([8], [8]), ([9], [9]), ([6, 10, 6], [6, 10]), ([0, 11], [0, 11]), ([12, 11, 0, 1, 2, 3, 4, 5, 6, 7, 8, 9, 10, 11, 12], [12]), ([13, 0, 1, 2, 3, 4, 5, 6, 7, 8, 9, 10, 11, 12, 13], [])])
def interlocutorref8_both.B3 : List Nat := [0, 0, 0, 4, 12, 28, 62, 0, 128, 384, 896, 2046, 4095, 8191, 16383]
theorem interlocutorref8_both.tab3 : rtab .any (opsOf Try.f77 3) = interlocutorref8_both.T3 := by kernel_rfl
theorem interlocutorref8_both.bits3 : waitsOk interlocutorref8_both.T3.2 interlocutorref8_both.B3 = true := by kernel_rfl
set_option maxHeartbeats 8000000 in
set_option maxRecDepth 100000 in
theorem interlocutorref8_both.calls (k : Nat) (A0 : Option Addr) (c0 : Nat) (l0 : List (S27)) (a1 : Int) (a2 : Int) (a3 : Int) (r1 : Int) (r2 : List Int) (r3 : Bool) (w : World) (hr0 : Kd.C k27 w A0 l0.length l0) (hc0 : l0.length ≤ c0) (h : interlocutorref8_both.f k l0 a1 a2 a3 = some (r1, r2, r3)) :
    Calls Try.prog 77 #[.slice A0 l0.length c0, .int .i64 a1, .int .i64 a2, .int .i64 a3] w fun e w' => ∃ v1_ : Value, e = .returned (.tuple #[.agg #[.int .i64 r1, v1_], .bool r3]) ∧ Kd.R (Kd.int .i64) 3 w' w.heap.size (fun _ => True) v1_ r2 ∧ Below w.heap.size w w' := by
  have hu27 := Try.underlying27
  have HR0 := Aside0.mk hr0
  have HC0 := Aside0.mk hc0
  clear hr0 hc0
  have HB := Aside0.mk (Below.refl w.heap.size w)
  have H : (if 0 < (l0.length : Int) then (if ((rd_T27 l0 0).f0) = a1 then (if 1 < (l0.length : Int) then (if ((rd_T27 l0 1).f0) = a2 then ((interlocutorref8_Right.f k ((rd_T27 l0 0).f0) ((rd_T27 l0 0).f1)).bind fun t179 => (if t179 = true then ((interlocutorref8_Right.f k ((rd_T27 l0 1).f0) ((rd_T27 l0 1).f1)).bind fun t181 => (interlocutorref8_both.j0 k l0 a3 (!t181))) else (interlocutorref8_both.j0 k l0 a3 true))) else (interlocutorref8_both.j0 k l0 a3 true)) else (none)) else (interlocutorref8_both.j0 k l0 a3 true)) else (none)) = some (r1, r2, r3) := h
  clear h
  have HC5 := Aside0.mk H
  clear H
  go_enter Try.func77, Try.ntmps77
  go_upto_region 1 with (first | ((with_reducible refine gate_dst (N := 8) rfl ?_); refine box_event ?hg (N := 8) ?hd (cs := #[.int .i64 0, .slice none 0 0]) (t := 27) ?hr ?_; (case hd => rfl); (case hg => rfl); (case hr => first | (go_simp; done) | (go_simp; rfl)); intro gb175 hg w6 hbox hb; have n0_ := Aside0.mk (below_step (by repeat (first | (with_reducible first | exact HB.out | apply below_alloc | apply pw_below_drewN | apply below_drew1) | exact HB.out)) hb); have n1_ := Aside0.mk (hbox); have n2_ := Aside0.mk ((by rw [hg]; exact (below_size (by repeat (first | (with_reducible first | exact HB.out | apply below_alloc | apply pw_below_drewN | apply below_drew1) | exact HB.out))) : w.heap.size ≤ gb175)); have n3_ := Aside0.mk ((by rw [hg]; exact (below_size (by repeat (first | (with_reducible first | exact HB.out | apply below_alloc | apply pw_below_drewN | apply below_drew1) | exact HB.out))) : w.heap.size ≤ gb175)); clear HB; have HB := n0_; have BK175 := n1_; have GW175 := n2_; have GE175 := n3_; clear n0_ n1_ n2_ n3_; clear hb hbox hg))
  (try simp only [Act.put, List.setIfInBounds_toArray, List.set_cons_zero, List.set_cons_succ])
  go_cut [37] (fun v37 wc => ∃ (kq : Nat) (x37_4 : Bool), v37 = .bool x37_4 ∧ Aside0 (interlocutorref8_both.j0 kq l0 a3 x37_4 = some (r1, r2, r3)) ∧ Aside0 (kq ≤ k) ∧ Aside0 (wc.heap[gb175]? = some (.cells #[.int .i64 0, (.slice none 0 0)] 27 (0, 0))) ∧ Aside0 (Below w.heap.size w wc))
  case first =>
    have H := HC5.out
    clear HC5
    by_cases c7 : 0 < (l0.length : Int)
    · rw [if_pos c7] at H
      have c7b0 : decide (0 < (l0.length : Int)) = true := decide_eq_true c7
      have c7b1 : decide (0 < l0.length) = true := decide_eq_true (by omega)
      clear c7
      (first | rw [c7b0] | (simp only [i64_w, i32_w]; rw [c7b0]) | skip)
      by_cases c8 : ((rd_T27 l0 0).f0) = a1
      · rw [if_pos c8] at H
        have c8b0 : (((rd_T27 l0 0).f0) == a1) = true := beq_iff_eq.mpr c8
        have c8b1 : (((rd_T27 l0 0).f0) != a1) = false := bne_eq_false_iff_eq.mpr c8
        clear c8
        by_cases c9 : 1 < (l0.length : Int)
        · rw [if_pos c9] at H
          have c9b0 : decide (1 < (l0.length : Int)) = true := decide_eq_true c9
          have c9b1 : decide (1 < l0.length) = true := decide_eq_true (by omega)
          clear c9
          by_cases c10 : ((rd_T27 l0 1).f0) = a2
          · rw [if_pos c10] at H
            have c10b0 : (((rd_T27 l0 1).f0) == a2) = true := beq_iff_eq.mpr c10
            have c10b1 : (((rd_T27 l0 1).f0) != a2) = false := bne_eq_false_iff_eq.mpr c10
            clear c10
            replace H := Option.bind_eq_some_iff.mp H
            obtain ⟨t179, A110, H⟩ := H
            replace H : (if t179 = true then ((interlocutorref8_Right.f k ((rd_T27 l0 1).f0) ((rd_T27 l0 1).f1)).bind fun t181 => (interlocutorref8_both.j0 k l0 a3 (!t181))) else (interlocutorref8_both.j0 k l0 a3 true)) = some (r1, r2, r3) := H
            have A11 := Aside0.mk A110
            clear A110
            by_cases c12 : t179 = true
            · subst c12
              have H1 : ((interlocutorref8_Right.f k ((rd_T27 l0 1).f0) ((rd_T27 l0 1).f1)).bind fun t181 => (interlocutorref8_both.j0 k l0 a3 (!t181))) = some (r1, r2, r3) := by rw [if_pos rfl] at H; exact H
              clear H
              have H := H1
              clear H1
              replace H := Option.bind_eq_some_iff.mp H
              obtain ⟨t181, A130, H⟩ := H
              replace H : (interlocutorref8_both.j0 k l0 a3 (!t181)) = some (r1, r2, r3) := H
              have A13 := Aside0.mk A130
              clear A130
              have H' := Aside0.mk H
              clear H
              have p176 : 0 ≤ (0 : Int) := (by omega)
              have q176 : 0 < (l0.length : Int) := of_decide_eq_true (by first | (with_reducible assumption) | assumption)
              obtain ⟨ad176, A176_1, c176_1, e176, hx176_0, hx176_1, hl176_1, hi176_1⟩ := at_T27 HR0.out 0 p176 q176
              cases e176
              have qi176 : (0 < l0.length) = True := eq_true (by omega)
              (try rw [show ((0 : Int)).toNat = 0 from rfl] at hx176_0)
              (try rw [show 0 * 2 = 0 from rfl] at hx176_0)
              (try rw [Addr.add_zero'] at hx176_0)
              (try rw [show ((0 : Int)).toNat = 0 from rfl] at hx176_1)
              (try rw [show 0 * 2 = 0 from rfl] at hx176_1)
              (try rw [Addr.add_zero'] at hx176_1)
              replace hx176_0 := (HB.out.cell (World.block_lt_of_cell? w _ hx176_0)).trans hx176_0
              replace hx176_1 := (HB.out.cell (World.block_lt_of_cell? w _ hx176_1)).trans hx176_1
              have HR176_1 := Aside0.mk hi176_1
              have HC176_1 := Aside0.mk hl176_1
              clear hi176_1 hl176_1
              replace p176 := eq_true p176
              replace q176 := eq_true q176
              have p177 : 0 ≤ (1 : Int) := (by omega)
              have q177 : 1 < (l0.length : Int) := of_decide_eq_true (by first | (with_reducible assumption) | assumption)
              obtain ⟨ad177, A177_1, c177_1, e177, hx177_0, hx177_1, hl177_1, hi177_1⟩ := at_T27 HR0.out 1 p177 q177
              obtain rfl : ad176 = ad177 := (by injection e177)
              (try simp only [show (1 : Int).toNat = 1 from rfl, Nat.reduceMul, Nat.reduceEqDiff, Go.Addr.add, ↓reduceIte] at hx177_0)
              (try simp only [show (1 : Int).toNat = 1 from rfl, Nat.reduceMul, Nat.reduceEqDiff, Go.Addr.add, ↓reduceIte] at hx177_1)
              have qi177 : (1 < l0.length) = True := eq_true (by omega)
              (try rw [show ((1 : Int)).toNat = 1 from rfl] at hx177_0)
              (try rw [show 1 * 2 = 2 from rfl] at hx177_0)
              (try rw [show ((1 : Int)).toNat = 1 from rfl] at hx177_1)
              (try rw [show 1 * 2 = 2 from rfl] at hx177_1)
              replace hx177_0 := (HB.out.cell (World.block_lt_of_cell? w _ hx177_0)).trans hx177_0
              replace hx177_1 := (HB.out.cell (World.block_lt_of_cell? w _ hx177_1)).trans hx177_1
              have HR177_1 := Aside0.mk hi177_1
              have HC177_1 := Aside0.mk hl177_1
              clear hi177_1 hl177_1
              replace p177 := eq_true p177
              replace q177 := eq_true q177
              have p178 : 0 ≤ (0 : Int) := (by omega)
              have q178 : 0 < (l0.length : Int) := of_decide_eq_true (by first | (with_reducible assumption) | assumption)
              obtain ⟨ad178, A178_1, c178_1, e178, hx178_0, hx178_1, hl178_1, hi178_1⟩ := at_T27 HR0.out 0 p178 q178
              obtain rfl : ad176 = ad178 := (by injection e178)
              have qi178 : (0 < l0.length) = True := eq_true (by omega)
              (try rw [show ((0 : Int)).toNat = 0 from rfl] at hx178_0)
              (try rw [show 0 * 2 = 0 from rfl] at hx178_0)
              (try rw [Addr.add_zero'] at hx178_0)
              (try rw [show ((0 : Int)).toNat = 0 from rfl] at hx178_1)
              (try rw [show 0 * 2 = 0 from rfl] at hx178_1)
              (try rw [Addr.add_zero'] at hx178_1)
              replace hx178_0 := (HB.out.cell (World.block_lt_of_cell? w _ hx178_0)).trans hx178_0
              replace hx178_1 := (HB.out.cell (World.block_lt_of_cell? w _ hx178_1)).trans hx178_1
              have HR178_1 := Aside0.mk hi178_1
              have HC178_1 := Aside0.mk hl178_1
              clear hi178_1 hl178_1
              replace p178 := eq_true p178
              replace q178 := eq_true q178
              have ea_ := Option.some.inj (hx176_1.symm.trans hx178_1)
              injection ea_ with ea_ en_ ec_
              subst ea_
              subst ec_
              clear en_
              go_wp2_with (first | (go_at_call 29; (with_reducible refine (interlocutorref8_Right.calls k ((rd_T27 l0 0).f0) _ _ ((rd_T27 l0 0).f1) true _ ?side1 ?side2 A11.out).mono ?_); (case side1 => repeat (first | exact (Kd.C_below HR178_1.out HB.out) | (with_reducible refine Kd.C_alloc ?_ _) | (with_reducible refine Kd.C_drewN ?_ _) | (with_reducible refine Kd.C_drew ?_))); (case side2 => exact HC178_1.out); rintro e w14 ⟨rfl, hb⟩; have n0_ := Aside0.mk (blk_below (g := gb175) (o := .cells #[.int .i64 0, .slice none 0 0] 27 (0, 0)) (by (with_reducible repeat (first | refine blk_drewN ?_ _ | refine blk_drew ?_ | refine blk_alloc ?_ _)); exact BK175.out) hb); have n1_ := Aside0.mk (below_step (by repeat (first | (with_reducible first | exact HB.out | apply below_alloc | apply pw_below_drewN | apply below_drew1 | refine below_set ?_ GE175.out) | exact HB.out)) hb); clear BK175; clear HB; have BK175 := n0_; have HB := n1_; clear n0_ n1_; (try clear hb); (try clear hb2); (try clear hk); (try clear hi); have p180 : 0 ≤ (1 : Int) := (by omega); have q180 : 1 < (l0.length : Int) := of_decide_eq_true (by first | (with_reducible assumption) | assumption); obtain ⟨ad180, A180_1, c180_1, e180, hx180_0, hx180_1, hl180_1, hi180_1⟩ := at_T27 HR0.out 1 p180 q180; obtain rfl : ad176 = ad180 := (by injection e180); (try simp only [show (1 : Int).toNat = 1 from rfl, Nat.reduceMul, Nat.reduceEqDiff, Go.Addr.add, ↓reduceIte] at hx180_0); (try simp only [show (1 : Int).toNat = 1 from rfl, Nat.reduceMul, Nat.reduceEqDiff, Go.Addr.add, ↓reduceIte] at hx180_1); have qi180 : (1 < l0.length) = True := eq_true (by omega); (try rw [show ((1 : Int)).toNat = 1 from rfl] at hx180_0); (try rw [show 1 * 2 = 2 from rfl] at hx180_0); (try rw [show ((1 : Int)).toNat = 1 from rfl] at hx180_1); (try rw [show 1 * 2 = 2 from rfl] at hx180_1); replace hx180_0 := (HB.out.cell (World.block_lt_of_cell? w _ hx180_0)).trans hx180_0; replace hx180_1 := (HB.out.cell (World.block_lt_of_cell? w _ hx180_1)).trans hx180_1; have HR180_1 := Aside0.mk hi180_1; have HC180_1 := Aside0.mk hl180_1; clear hi180_1 hl180_1; replace p180 := eq_true p180; replace q180 := eq_true q180) | (go_at_call 29; (with_reducible refine (interlocutorref8_Right.calls k ((rd_T27 l0 1).f0) _ _ ((rd_T27 l0 1).f1) t181 _ ?side1 ?side2 A13.out).mono ?_); (case side1 => repeat (first | exact (Kd.C_below HR180_1.out HB.out) | (with_reducible refine Kd.C_alloc ?_ _) | (with_reducible refine Kd.C_drewN ?_ _) | (with_reducible refine Kd.C_drew ?_))); (case side2 => exact HC180_1.out); rintro e w15 ⟨rfl, hb⟩; have n0_ := Aside0.mk (blk_below (g := gb175) (o := .cells #[.int .i64 0, .slice none 0 0] 27 (0, 0)) (by (with_reducible repeat (first | refine blk_drewN ?_ _ | refine blk_drew ?_ | refine blk_alloc ?_ _)); exact BK175.out) hb); have n1_ := Aside0.mk (below_step (by repeat (first | (with_reducible first | exact HB.out | apply below_alloc | apply pw_below_drewN | apply below_drew1 | refine below_set ?_ GE175.out) | exact HB.out)) hb); clear BK175; clear HB; have BK175 := n0_; have HB := n1_; clear n0_ n1_; (try clear hb); (try clear hb2); (try clear hk); (try clear hi)))
              go_meet
              case rel => exact ⟨_, (!t181), (by first | rfl | (simp; done) | (simp [*]; done)), H', ⟨by first | omega | exact Nat.le_refl _⟩, ⟨by (with_reducible repeat (first | refine blk_drewN ?_ _ | refine blk_drew ?_ | refine blk_alloc ?_ _)); exact BK175.out⟩, ⟨by repeat (first | (with_reducible first | exact HB.out | apply below_alloc | apply pw_below_drewN | apply below_drew1 | refine below_set ?_ GE175.out) | exact HB.out)⟩⟩
            · replace c12 := Bool.eq_false_iff.mpr c12
              subst c12
              have H1 : (interlocutorref8_both.j0 k l0 a3 true) = some (r1, r2, r3) := by rw [if_neg (show ¬ (false = true) by decide)] at H; exact H
              clear H
              have H := H1
              clear H1
              have H' := Aside0.mk H
              clear H
              have p176 : 0 ≤ (0 : Int) := (by omega)
              have q176 : 0 < (l0.length : Int) := of_decide_eq_true (by first | (with_reducible assumption) | assumption)
              obtain ⟨ad176, A176_1, c176_1, e176, hx176_0, hx176_1, hl176_1, hi176_1⟩ := at_T27 HR0.out 0 p176 q176
              cases e176
              have qi176 : (0 < l0.length) = True := eq_true (by omega)
              (try rw [show ((0 : Int)).toNat = 0 from rfl] at hx176_0)
              (try rw [show 0 * 2 = 0 from rfl] at hx176_0)
              (try rw [Addr.add_zero'] at hx176_0)
              (try rw [show ((0 : Int)).toNat = 0 from rfl] at hx176_1)
              (try rw [show 0 * 2 = 0 from rfl] at hx176_1)
              (try rw [Addr.add_zero'] at hx176_1)
              replace hx176_0 := (HB.out.cell (World.block_lt_of_cell? w _ hx176_0)).trans hx176_0
              replace hx176_1 := (HB.out.cell (World.block_lt_of_cell? w _ hx176_1)).trans hx176_1
              have HR176_1 := Aside0.mk hi176_1
              have HC176_1 := Aside0.mk hl176_1
              clear hi176_1 hl176_1
              replace p176 := eq_true p176
              replace q176 := eq_true q176
              have p177 : 0 ≤ (1 : Int) := (by omega)
              have q177 : 1 < (l0.length : Int) := of_decide_eq_true (by first | (with_reducible assumption) | assumption)
              obtain ⟨ad177, A177_1, c177_1, e177, hx177_0, hx177_1, hl177_1, hi177_1⟩ := at_T27 HR0.out 1 p177 q177
              obtain rfl : ad176 = ad177 := (by injection e177)
              (try simp only [show (1 : Int).toNat = 1 from rfl, Nat.reduceMul, Nat.reduceEqDiff, Go.Addr.add, ↓reduceIte] at hx177_0)
              (try simp only [show (1 : Int).toNat = 1 from rfl, Nat.reduceMul, Nat.reduceEqDiff, Go.Addr.add, ↓reduceIte] at hx177_1)
              have qi177 : (1 < l0.length) = True := eq_true (by omega)
              (try rw [show ((1 : Int)).toNat = 1 from rfl] at hx177_0)
              (try rw [show 1 * 2 = 2 from rfl] at hx177_0)
              (try rw [show ((1 : Int)).toNat = 1 from rfl] at hx177_1)
              (try rw [show 1 * 2 = 2 from rfl] at hx177_1)
              replace hx177_0 := (HB.out.cell (World.block_lt_of_cell? w _ hx177_0)).trans hx177_0
              replace hx177_1 := (HB.out.cell (World.block_lt_of_cell? w _ hx177_1)).trans hx177_1
              have HR177_1 := Aside0.mk hi177_1
              have HC177_1 := Aside0.mk hl177_1
              clear hi177_1 hl177_1
              replace p177 := eq_true p177
              replace q177 := eq_true q177
              have p178 : 0 ≤ (0 : Int) := (by omega)
              have q178 : 0 < (l0.length : Int) := of_decide_eq_true (by first | (with_reducible assumption) | assumption)
              obtain ⟨ad178, A178_1, c178_1, e178, hx178_0, hx178_1, hl178_1, hi178_1⟩ := at_T27 HR0.out 0 p178 q178
              obtain rfl : ad176 = ad178 := (by injection e178)
              have qi178 : (0 < l0.length) = True := eq_true (by omega)
              (try rw [show ((0 : Int)).toNat = 0 from rfl] at hx178_0)
              (try rw [show 0 * 2 = 0 from rfl] at hx178_0)
              (try rw [Addr.add_zero'] at hx178_0)
              (try rw [show ((0 : Int)).toNat = 0 from rfl] at hx178_1)
              (try rw [show 0 * 2 = 0 from rfl] at hx178_1)
              (try rw [Addr.add_zero'] at hx178_1)
              replace hx178_0 := (HB.out.cell (World.block_lt_of_cell? w _ hx178_0)).trans hx178_0
              replace hx178_1 := (HB.out.cell (World.block_lt_of_cell? w _ hx178_1)).trans hx178_1
              have HR178_1 := Aside0.mk hi178_1
              have HC178_1 := Aside0.mk hl178_1
              clear hi178_1 hl178_1
              replace p178 := eq_true p178
              replace q178 := eq_true q178
              have ea_ := Option.some.inj (hx176_1.symm.trans hx178_1)
              injection ea_ with ea_ en_ ec_
              subst ea_
              subst ec_
              clear en_
              go_wp2_with (first | (go_at_call 29; (with_reducible refine (interlocutorref8_Right.calls k ((rd_T27 l0 0).f0) _ _ ((rd_T27 l0 0).f1) false _ ?side1 ?side2 A11.out).mono ?_); (case side1 => repeat (first | exact (Kd.C_below HR178_1.out HB.out) | (with_reducible refine Kd.C_alloc ?_ _) | (with_reducible refine Kd.C_drewN ?_ _) | (with_reducible refine Kd.C_drew ?_))); (case side2 => exact HC178_1.out); rintro e w16 ⟨rfl, hb⟩; have n0_ := Aside0.mk (blk_below (g := gb175) (o := .cells #[.int .i64 0, .slice none 0 0] 27 (0, 0)) (by (with_reducible repeat (first | refine blk_drewN ?_ _ | refine blk_drew ?_ | refine blk_alloc ?_ _)); exact BK175.out) hb); have n1_ := Aside0.mk (below_step (by repeat (first | (with_reducible first | exact HB.out | apply below_alloc | apply pw_below_drewN | apply below_drew1 | refine below_set ?_ GE175.out) | exact HB.out)) hb); clear BK175; clear HB; have BK175 := n0_; have HB := n1_; clear n0_ n1_; (try clear hb); (try clear hb2); (try clear hk); (try clear hi)))
              go_meet
              case rel => exact ⟨_, (true), (by first | rfl | (simp; done) | (simp [*]; done)), H', ⟨by first | omega | exact Nat.le_refl _⟩, ⟨by (with_reducible repeat (first | refine blk_drewN ?_ _ | refine blk_drew ?_ | refine blk_alloc ?_ _)); exact BK175.out⟩, ⟨by repeat (first | (with_reducible first | exact HB.out | apply below_alloc | apply pw_below_drewN | apply below_drew1 | refine below_set ?_ GE175.out) | exact HB.out)⟩⟩
          · rw [if_neg c10] at H
            have c10b0 : (((rd_T27 l0 1).f0) == a2) = false := beq_eq_false_iff_ne.mpr c10
            have c10b1 : (((rd_T27 l0 1).f0) != a2) = true := bne_iff_ne.mpr c10
            have H' := Aside0.mk H
            clear H
            have p176 : 0 ≤ (0 : Int) := (by omega)
            have q176 : 0 < (l0.length : Int) := of_decide_eq_true (by first | (with_reducible assumption) | assumption)
            obtain ⟨ad176, A176_1, c176_1, e176, hx176_0, hx176_1, hl176_1, hi176_1⟩ := at_T27 HR0.out 0 p176 q176
            cases e176
            have qi176 : (0 < l0.length) = True := eq_true (by omega)
            (try rw [show ((0 : Int)).toNat = 0 from rfl] at hx176_0)
            (try rw [show 0 * 2 = 0 from rfl] at hx176_0)
            (try rw [Addr.add_zero'] at hx176_0)
            (try rw [show ((0 : Int)).toNat = 0 from rfl] at hx176_1)
            (try rw [show 0 * 2 = 0 from rfl] at hx176_1)
            (try rw [Addr.add_zero'] at hx176_1)
            replace hx176_0 := (HB.out.cell (World.block_lt_of_cell? w _ hx176_0)).trans hx176_0
            replace hx176_1 := (HB.out.cell (World.block_lt_of_cell? w _ hx176_1)).trans hx176_1
            have HR176_1 := Aside0.mk hi176_1
            have HC176_1 := Aside0.mk hl176_1
            clear hi176_1 hl176_1
            replace p176 := eq_true p176
            replace q176 := eq_true q176
            have p177 : 0 ≤ (1 : Int) := (by omega)
            have q177 : 1 < (l0.length : Int) := of_decide_eq_true (by first | (with_reducible assumption) | assumption)
            obtain ⟨ad177, A177_1, c177_1, e177, hx177_0, hx177_1, hl177_1, hi177_1⟩ := at_T27 HR0.out 1 p177 q177
            obtain rfl : ad176 = ad177 := (by injection e177)
            (try simp only [show (1 : Int).toNat = 1 from rfl, Nat.reduceMul, Nat.reduceEqDiff, Go.Addr.add, ↓reduceIte] at hx177_0)
            (try simp only [show (1 : Int).toNat = 1 from rfl, Nat.reduceMul, Nat.reduceEqDiff, Go.Addr.add, ↓reduceIte] at hx177_1)
            have qi177 : (1 < l0.length) = True := eq_true (by omega)
            (try rw [show ((1 : Int)).toNat = 1 from rfl] at hx177_0)
            (try rw [show 1 * 2 = 2 from rfl] at hx177_0)
            (try rw [show ((1 : Int)).toNat = 1 from rfl] at hx177_1)
            (try rw [show 1 * 2 = 2 from rfl] at hx177_1)
            replace hx177_0 := (HB.out.cell (World.block_lt_of_cell? w _ hx177_0)).trans hx177_0
            replace hx177_1 := (HB.out.cell (World.block_lt_of_cell? w _ hx177_1)).trans hx177_1
            have HR177_1 := Aside0.mk hi177_1
            have HC177_1 := Aside0.mk hl177_1
            clear hi177_1 hl177_1
            replace p177 := eq_true p177
            replace q177 := eq_true q177
            go_wp2
            go_meet
            case rel => exact ⟨_, (true), (by first | rfl | (simp; done) | (simp [*]; done)), H', ⟨by first | omega | exact Nat.le_refl _⟩, ⟨by (with_reducible repeat (first | refine blk_drewN ?_ _ | refine blk_drew ?_ | refine blk_alloc ?_ _)); exact BK175.out⟩, ⟨by repeat (first | (with_reducible first | exact HB.out | apply below_alloc | apply pw_below_drewN | apply below_drew1 | refine below_set ?_ GE175.out) | exact HB.out)⟩⟩
        · rw [if_neg c9] at H
          exact absurd H (by simp)
      · rw [if_neg c8] at H
        have c8b0 : (((rd_T27 l0 0).f0) == a1) = false := beq_eq_false_iff_ne.mpr c8
        have c8b1 : (((rd_T27 l0 0).f0) != a1) = true := bne_iff_ne.mpr c8
        have H' := Aside0.mk H
        clear H
        have p176 : 0 ≤ (0 : Int) := (by omega)
        have q176 : 0 < (l0.length : Int) := of_decide_eq_true (by first | (with_reducible assumption) | assumption)
        obtain ⟨ad176, A176_1, c176_1, e176, hx176_0, hx176_1, hl176_1, hi176_1⟩ := at_T27 HR0.out 0 p176 q176
        cases e176
        have qi176 : (0 < l0.length) = True := eq_true (by omega)
        (try rw [show ((0 : Int)).toNat = 0 from rfl] at hx176_0)
        (try rw [show 0 * 2 = 0 from rfl] at hx176_0)
        (try rw [Addr.add_zero'] at hx176_0)
        (try rw [show ((0 : Int)).toNat = 0 from rfl] at hx176_1)
        (try rw [show 0 * 2 = 0 from rfl] at hx176_1)
        (try rw [Addr.add_zero'] at hx176_1)
        replace hx176_0 := (HB.out.cell (World.block_lt_of_cell? w _ hx176_0)).trans hx176_0
        replace hx176_1 := (HB.out.cell (World.block_lt_of_cell? w _ hx176_1)).trans hx176_1
        have HR176_1 := Aside0.mk hi176_1
        have HC176_1 := Aside0.mk hl176_1
        clear hi176_1 hl176_1
        replace p176 := eq_true p176
        replace q176 := eq_true q176
        go_wp2
        go_meet
        case rel => exact ⟨_, (true), (by first | rfl | (simp; done) | (simp [*]; done)), H', ⟨by first | omega | exact Nat.le_refl _⟩, ⟨by (with_reducible repeat (first | refine blk_drewN ?_ _ | refine blk_drew ?_ | refine blk_alloc ?_ _)); exact BK175.out⟩, ⟨by repeat (first | (with_reducible first | exact HB.out | apply below_alloc | apply pw_below_drewN | apply below_drew1 | refine below_set ?_ GE175.out) | exact HB.out)⟩⟩
    · rw [if_neg c7] at H
      exact absurd H (by simp)
  case rest =>
    clear HC5
    try clear c1
    try clear p1
    try clear q1
    try clear hx1
    try clear qi1
    try clear p2
    try clear c7
    try clear c7b0
    try clear c7b1
    try clear c8
    try clear c8b0
    try clear c8b1
    try clear c9
    try clear c9b0
    try clear c9b1
    try clear c10
    try clear c10b0
    try clear c10b1
    try clear c12
    try clear hx176_0
    try clear hx176_1
    try clear hx177_0
    try clear hx177_1
    try clear hx178_0
    try clear hx178_1
    try clear hx180_0
    try clear hx180_1
    try clear p176
    try clear p177
    try clear p178
    try clear p180
    try clear q176
    try clear q177
    try clear q178
    try clear q180
    obtain ⟨kq, x37_4, rfl, HA, HJ4, BK175, HB⟩ := hcut
    cases kq with
    | zero => exact absurd HA.out (by simp [interlocutorref8_both.j0])
    | succ kj4 =>
      have H := HA.out
      clear HA
      simp only [interlocutorref8_both.j0] at H
      by_cases c17 : x37_4 = true
      · subst c17
        have H1 : (some (0, ([] : List Int), false)) = some (r1, r2, r3) := by rw [if_pos rfl] at H; exact H
        clear H
        have H := H1
        clear H1
        simp only [Option.some.injEq, Prod.mk.injEq] at H
        obtain ⟨rfl, rfl, rfl⟩ := H
        have hcz18_0 : wc.cell? ⟨gb175, 0, none⟩ = some (.int .i64 0) := (blk_cell BK175.out 0).trans rfl
        have hcz18_1 : wc.cell? ⟨gb175, 1, none⟩ = some (.slice none 0 0) := (blk_cell BK175.out 1).trans rfl
        have hfz18_0 := blk_frozen BK175.out 0
        have hfz18_1 := blk_frozen BK175.out 1
        go_wp2
        refine bodyPost_ret (results_ct rfl _ _ gb175 27 #[.int .i64 0, .slice none 0 0] (0, 0) _ rfl (by (with_reducible repeat (first | refine blk_drewN ?_ _ | refine blk_drew ?_ | refine blk_alloc ?_ _)); refine blk_put (cs := #[.int .i64 0, .slice none 0 0]) ?_ 1 _ rfl; (with_reducible repeat (first | refine blk_drewN ?_ _ | refine blk_drew ?_ | refine blk_alloc ?_ _)); refine blk_put (cs := #[.int .i64 0, .slice none 0 0]) ?_ 0 _ rfl; (with_reducible repeat (first | refine blk_drewN ?_ _ | refine blk_drew ?_ | refine blk_alloc ?_ _)); exact BK175.out) Try.underlying27 rfl (by kernel_rfl)) rfl ?_
        exact ⟨_, by first | rfl | (simp [errW_none, errW_some] <;> rfl) | (simp [*, errW_none, errW_some] <;> rfl), by first | exact Kd.R_nil _ _ _ _ _ | exact Kd.N_nil _ _ _ _ _ | exact Kd.V_nil _ _ _ _ _ | exact Kd.Q_nil _ _ _ _ _ | exact Kd.S_nil _ _ _ _ _, by repeat (first | (with_reducible first | exact HB.out | apply below_alloc | apply pw_below_drewN | apply below_drew1 | refine below_set ?_ GE175.out) | exact HB.out)⟩
      · replace c17 := Bool.eq_false_iff.mpr c17
        subst c17
        have H1 : ((some (([] : List Int) : List Int)).bind fun y182 => (if 0 < (l0.length : Int) then (if y182.length + ((rd_T27 l0 0).f1).length < 17592186044416 then ((some (y182 ++ ((rd_T27 l0 0).f1) : List Int)).bind fun y186 => (if 1 < (l0.length : Int) then (if y186.length + ((rd_T27 l0 1).f1).length < 17592186044416 then (some (a3, (y186 ++ ((rd_T27 l0 1).f1)), true)) else (none)) else (none))) else (none)) else (none))) = some (r1, r2, r3) := by rw [if_neg (show ¬ (false = true) by decide)] at H; exact H
        clear H
        have H := H1
        clear H1
        obtain ⟨y182, hy182⟩ : ∃ y_ : List Int, y_ = (([] : List Int)) := ⟨_, rfl⟩
        replace H : (if 0 < (l0.length : Int) then (if y182.length + ((rd_T27 l0 0).f1).length < 17592186044416 then ((some (y182 ++ ((rd_T27 l0 0).f1) : List Int)).bind fun y186 => (if 1 < (l0.length : Int) then (if y186.length + ((rd_T27 l0 1).f1).length < 17592186044416 then (some (a3, (y186 ++ ((rd_T27 l0 1).f1)), true)) else (none)) else (none))) else (none)) else (none)) = some (r1, r2, r3) := by first | (rw [hy182]; with_reducible exact H) | (have H2_ := (Option.bind_some _ _).symm.trans H; rw [hy182]; with_reducible exact H2_) | (have H2_ := (Option.bind_some _ _).symm.trans H; with_reducible exact H2_) | with_reducible exact H | (rw [hy182]; exact H) | exact H
        have Ny182 := Aside0.mk hy182
        clear hy182
        by_cases c19 : 0 < (l0.length : Int)
        · rw [if_pos c19] at H
          have c19b0 : decide (0 < (l0.length : Int)) = true := decide_eq_true c19
          have c19b1 : decide (0 < l0.length) = true := decide_eq_true (by omega)
          clear c19
          by_cases c20 : y182.length + ((rd_T27 l0 0).f1).length < 17592186044416
          · rw [if_pos c20] at H
            have LMc20 := Aside0.mk c20
            clear c20
            obtain ⟨y186, hy186⟩ : ∃ y_ : List Int, y_ = (y182 ++ ((rd_T27 l0 0).f1)) := ⟨_, rfl⟩
            replace H : (if 1 < (l0.length : Int) then (if y186.length + ((rd_T27 l0 1).f1).length < 17592186044416 then (some (a3, (y186 ++ ((rd_T27 l0 1).f1)), true)) else (none)) else (none)) = some (r1, r2, r3) := by first | (rw [hy186]; with_reducible exact H) | (have H2_ := (Option.bind_some _ _).symm.trans H; rw [hy186]; with_reducible exact H2_) | (have H2_ := (Option.bind_some _ _).symm.trans H; with_reducible exact H2_) | with_reducible exact H | (rw [hy186]; exact H) | exact H
            have Ny186 := Aside0.mk hy186
            clear hy186
            by_cases c21 : 1 < (l0.length : Int)
            · rw [if_pos c21] at H
              have c21b0 : decide (1 < (l0.length : Int)) = true := decide_eq_true c21
              have c21b1 : decide (1 < l0.length) = true := decide_eq_true (by omega)
              clear c21
              by_cases c22 : y186.length + ((rd_T27 l0 1).f1).length < 17592186044416
              · rw [if_pos c22] at H
                have LMc22 := Aside0.mk c22
                clear c22
                obtain ⟨y190, hy190⟩ : ∃ y_ : List Int, y_ = (y186 ++ ((rd_T27 l0 1).f1)) := ⟨_, rfl⟩
                replace H : (some (a3, y190, true)) = some (r1, r2, r3) := by first | (rw [hy190]; with_reducible exact H) | (have H2_ := (Option.bind_some _ _).symm.trans H; rw [hy190]; with_reducible exact H2_) | (have H2_ := (Option.bind_some _ _).symm.trans H; with_reducible exact H2_) | with_reducible exact H | (rw [hy190]; exact H) | exact H
                have Ny190 := Aside0.mk hy190
                clear hy190
                simp only [Option.some.injEq, Prod.mk.injEq] at H
                obtain ⟨rfl, rfl, rfl⟩ := H
                try go_wp2
                have n0_ := Aside0.mk (blk_drew BK175.out)
                have n1_ := Aside0.mk (below_drew1 HB.out)
                clear BK175
                clear HB
                have BK175 := n0_
                have HB := n1_
                clear n0_ n1_
                have p185 : 0 ≤ (0 : Int) := (by omega)
                have q185 : 0 < (l0.length : Int) := of_decide_eq_true (by first | (with_reducible assumption) | assumption)
                obtain ⟨ad185, A185_1, c185_1, e185, hx185_0, hx185_1, hl185_1, hi185_1⟩ := at_T27 HR0.out 0 p185 q185
                have hw185_1 := hx185_1
                (try rw [show ((0 : Int)).toNat = 0 from rfl] at hw185_1)
                (try rw [show 0 * 2 = 0 from rfl] at hw185_1)
                (try rw [Addr.add_zero'] at hw185_1)
                have hw185_0 := hx185_0
                (try rw [show ((0 : Int)).toNat = 0 from rfl] at hw185_0)
                (try rw [show 0 * 2 = 0 from rfl] at hw185_0)
                (try rw [Addr.add_zero'] at hw185_0)
                cases e185
                have qi185 : (0 < l0.length) = True := eq_true (by omega)
                (try rw [show ((0 : Int)).toNat = 0 from rfl] at hx185_0)
                (try rw [show 0 * 2 = 0 from rfl] at hx185_0)
                (try rw [Addr.add_zero'] at hx185_0)
                (try rw [show ((0 : Int)).toNat = 0 from rfl] at hx185_1)
                (try rw [show 0 * 2 = 0 from rfl] at hx185_1)
                (try rw [Addr.add_zero'] at hx185_1)
                replace hx185_0 := (HB.out.cell (World.block_lt_of_cell? w _ hx185_0)).trans hx185_0
                replace hx185_1 := (HB.out.cell (World.block_lt_of_cell? w _ hx185_1)).trans hx185_1
                have HR185_1 := Aside0.mk hi185_1
                have HC185_1 := Aside0.mk hl185_1
                clear hi185_1 hl185_1
                replace p185 := eq_true p185
                replace q185 := eq_true q185
                have p189 : 0 ≤ (1 : Int) := (by omega)
                have q189 : 1 < (l0.length : Int) := of_decide_eq_true (by first | (with_reducible assumption) | assumption)
                obtain ⟨ad189, A189_1, c189_1, e189, hx189_0, hx189_1, hl189_1, hi189_1⟩ := at_T27 HR0.out 1 p189 q189
                have hw189_1 := hx189_1
                (try rw [show ((1 : Int)).toNat = 1 from rfl] at hw189_1)
                (try rw [show 1 * 2 = 2 from rfl] at hw189_1)
                (try simp only [Nat.reduceMul, Nat.reduceEqDiff, Go.Addr.add, ↓reduceIte] at hw189_1)
                have hw189_0 := hx189_0
                (try rw [show ((1 : Int)).toNat = 1 from rfl] at hw189_0)
                (try rw [show 1 * 2 = 2 from rfl] at hw189_0)
                (try simp only [Nat.reduceMul, Nat.reduceEqDiff, Go.Addr.add, ↓reduceIte] at hw189_0)
                obtain rfl : ad185 = ad189 := (by injection e189)
                (try simp only [show (1 : Int).toNat = 1 from rfl, Nat.reduceMul, Nat.reduceEqDiff, Go.Addr.add, ↓reduceIte] at hx189_0)
                (try simp only [show (1 : Int).toNat = 1 from rfl, Nat.reduceMul, Nat.reduceEqDiff, Go.Addr.add, ↓reduceIte] at hx189_1)
                have qi189 : (1 < l0.length) = True := eq_true (by omega)
                (try rw [show ((1 : Int)).toNat = 1 from rfl] at hx189_0)
                (try rw [show 1 * 2 = 2 from rfl] at hx189_0)
                (try rw [show ((1 : Int)).toNat = 1 from rfl] at hx189_1)
                (try rw [show 1 * 2 = 2 from rfl] at hx189_1)
                replace hx189_0 := (HB.out.cell (World.block_lt_of_cell? w _ hx189_0)).trans hx189_0
                replace hx189_1 := (HB.out.cell (World.block_lt_of_cell? w _ hx189_1)).trans hx189_1
                have HR189_1 := Aside0.mk hi189_1
                have HC189_1 := Aside0.mk hl189_1
                clear hi189_1 hl189_1
                replace p189 := eq_true p189
                replace q189 := eq_true q189
                refine start_ (n := 15) (S := fun w' => w'.cell? ad185 = some (.int .i64 ((rd_T27 l0 0).f0)) ∧ w'.cell? ⟨ad185.block, ad185.off + 1, none⟩ = some (.slice A185_1 ((rd_T27 l0 0).f1).length c185_1) ∧ w'.cell? ⟨ad185.block, ad185.off + 2, none⟩ = some (.int .i64 ((rd_T27 l0 1).f0)) ∧ w'.cell? ⟨ad185.block, ad185.off + 2 + 1, none⟩ = some (.slice A189_1 ((rd_T27 l0 1).f1).length c189_1)) (ds := []) #[false, false, false, false, false, false, false, false, false, false, false, false, false, false, false] (by kernel_rfl) rfl rfl ⟨((HB.out.cell (World.block_lt_of_cell? w _ hw185_0)).trans hw185_0), ((HB.out.cell (World.block_lt_of_cell? w _ hw185_1)).trans hw185_1), ((HB.out.cell (World.block_lt_of_cell? w _ hw189_0)).trans hw189_0), ((HB.out.cell (World.block_lt_of_cell? w _ hw189_1)).trans hw189_1)⟩ (fun hHeld => ?_); refine with_tabW interlocutorref8_both.tab3 interlocutorref8_both.bits3 (fun HT_ HW_ => ?_)
                generalize wc.drew = w23 at BK175 HB HR185_1 HR189_1 hx185_0 hx185_1 hx189_0 hx189_1 hHeld ⊢
                refine pure_ (i := 0) (N := some 39) (v := ?_) (a' := ?_) #[true, false, false, false, false, false, false, false, false, false, false, false, false, false, false] rfl rfl (any_of HT_.out (by kernel_rfl)) (fun _ _ _ h => h) (Or.inl ⟨by rfl, ?_⟩) ?_ ?_
                rotate_left
                · intro w'
                  go_simp
                  with_reducible rfl
                rotate_left
                · simp only [Act.put, List.setIfInBounds_toArray, List.set_cons_zero, List.set_cons_succ, i64_w, i32_w]
                  rfl
                refine pure_ (i := 2) (N := some 41) (v := ?_) (a' := ?_) #[true, false, true, false, false, false, false, false, false, false, false, false, false, false, false] rfl rfl (any_of HT_.out (by kernel_rfl)) (fun _ _ _ h => h) (Or.inl ⟨by rfl, ?_⟩) ?_ ?_
                rotate_left
                · intro w'
                  go_simp
                  with_reducible rfl
                rotate_left
                · simp only [Act.put, List.setIfInBounds_toArray, List.set_cons_zero, List.set_cons_succ, i64_w, i32_w]
                  rfl
                refine pure_ (i := 3) (N := some 42) (v := ?_) (a' := ?_) #[true, false, true, true, false, false, false, false, false, false, false, false, false, false, false] rfl rfl (any_of HT_.out (by kernel_rfl)) (fun _ _ _ h => h) (Or.inl ⟨by rfl, ?_⟩) ?_ ?_
                rotate_left
                · intro w'
                  go_simp
                  with_reducible rfl
                rotate_left
                · simp only [Act.put, List.setIfInBounds_toArray, List.set_cons_zero, List.set_cons_succ, i64_w, i32_w]
                  rfl
                refine pure_ (i := 4) (N := some 43) (v := ?_) (a' := ?_) #[true, false, true, true, true, false, false, false, false, false, false, false, false, false, false] rfl rfl (any_of HT_.out (by kernel_rfl)) (fun _ _ _ h => h) (Or.inl ⟨by rfl, ?_⟩) ?_ ?_
                rotate_left
                · intro w'
                  go_simp
                  with_reducible rfl
                rotate_left
                · simp only [Act.put, List.setIfInBounds_toArray, List.set_cons_zero, List.set_cons_succ, i64_w, i32_w]
                  rfl
                refine pure_ (i := 7) (N := some 46) (v := ?_) (a' := ?_) #[true, false, true, true, true, false, false, true, false, false, false, false, false, false, false] rfl rfl (any_of HT_.out (by kernel_rfl)) (fun _ _ _ h => h) (Or.inl ⟨by rfl, ?_⟩) ?_ ?_
                rotate_left
                · intro w'
                  go_simp
                  with_reducible rfl
                rotate_left
                · simp only [Act.put, List.setIfInBounds_toArray, List.set_cons_zero, List.set_cons_succ, i64_w, i32_w]
                  rfl
                refine pure_ (i := 8) (N := some 47) (v := ?_) (a' := ?_) #[true, false, true, true, true, false, false, true, true, false, false, false, false, false, false] rfl rfl (any_of HT_.out (by kernel_rfl)) (fun _ _ _ h => h) (Or.inl ⟨by rfl, ?_⟩) ?_ ?_
                rotate_left
                · intro w'
                  go_simp
                  with_reducible rfl
                rotate_left
                · simp only [Act.put, List.setIfInBounds_toArray, List.set_cons_zero, List.set_cons_succ, i64_w, i32_w]
                  rfl
                refine pure_ (i := 9) (N := some 48) (v := ?_) (a' := ?_) #[true, false, true, true, true, false, false, true, true, true, false, false, false, false, false] rfl rfl (any_of HT_.out (by kernel_rfl)) (fun _ _ _ h => h) (Or.inl ⟨by rfl, ?_⟩) ?_ ?_
                rotate_left
                · intro w'
                  go_simp
                  with_reducible rfl
                rotate_left
                · simp only [Act.put, List.setIfInBounds_toArray, List.set_cons_zero, List.set_cons_succ, i64_w, i32_w]
                  rfl
                refine take_ (i := 5) (N := some 44) (v := ?_) (a' := ?_) #[true, false, true, true, true, true, false, true, true, true, false, false, false, false, false] rfl rfl (take_ofW HT_.out HW_.out (by kernel_rfl)) (fun _ _ _ h => h) (Or.inl ⟨by rfl, ?_⟩) hHeld ?_ ?_
                rotate_left
                · rintro w' ⟨s0, s1, s2, s3⟩
                  go_simp
                  with_reducible rfl
                rotate_left
                · simp only [Act.put, List.setIfInBounds_toArray, List.set_cons_zero, List.set_cons_succ, i64_w, i32_w]
                  rfl
                refine take_ (i := 10) (N := some 49) (v := ?_) (a' := ?_) #[true, false, true, true, true, true, false, true, true, true, true, false, false, false, false] rfl rfl (take_ofW HT_.out HW_.out (by kernel_rfl)) (fun _ _ _ h => h) (Or.inl ⟨by rfl, ?_⟩) hHeld ?_ ?_
                rotate_left
                · rintro w' ⟨s0, s1, s2, s3⟩
                  go_simp
                  with_reducible rfl
                rotate_left
                · simp only [Act.put, List.setIfInBounds_toArray, List.set_cons_zero, List.set_cons_succ, i64_w, i32_w]
                  rfl
                refine one_ (i := 1) (N := some 40) #[true, true, true, true, true, true, false, true, true, true, true, false, false, false, false] rfl rfl (one_of HT_.out (by kernel_rfl)) (by decide) (fun K hK => ?_)
                refine Kd.R_lit_step (Kd.int .i64) _ 3 ?hg (N := 40) ?hd (xs := ([] : List Int)) (inner := []) (ok := fun _ => True) (okp := fun _ => True) ?hr ?hp (fun _ hk => hk) trivial (Below.refl _ _) (Nat.le_refl _) (by simp) ?_; (case hd => rfl); (case hg => rfl); (case hr => first | (go_simp; done) | (go_simp; rfl)); (case hp => exact (Reps.none _ _))
                intro v183 w24 ho25 hb hg_ hnew_
                clear hg_ hnew_
                (first | rw [← Ny182.out] at ho25 | (simp only [Int.reduceToNat] at ho25; rw [← Ny182.out] at ho25))
                have n0_ := Aside0.mk (Kd.R_lower ho25 (below_size (by repeat (first | (with_reducible first | exact HB.out | apply below_alloc | apply pw_below_drewN | apply below_drew1 | refine below_set ?_ GE175.out) | exact HB.out))))
                have n1_ := Aside0.mk (blk_below (g := gb175) (o := .cells #[.int .i64 0, .slice none 0 0] 27 (0, 0)) (by (with_reducible repeat (first | refine blk_drewN ?_ _ | refine blk_drew ?_ | refine blk_alloc ?_ _)); exact BK175.out) hb)
                have n2_ := Aside0.mk (below_step (by repeat (first | (with_reducible first | exact HB.out | apply below_alloc | apply pw_below_drewN | apply below_drew1 | refine below_set ?_ GE175.out) | exact HB.out)) hb)
                clear BK175
                clear HB
                have HO184 := n0_
                have BK175 := n1_
                have HB := n2_
                clear n0_ n1_ n2_
                clear hb ho25
                refine hK.out _ _ ⟨((HB.out.cell (World.block_lt_of_cell? w _ hw185_0)).trans hw185_0), ((HB.out.cell (World.block_lt_of_cell? w _ hw185_1)).trans hw185_1), ((HB.out.cell (World.block_lt_of_cell? w _ hw189_0)).trans hw189_0), ((HB.out.cell (World.block_lt_of_cell? w _ hw189_1)).trans hw189_1)⟩ (fun hHeld => ?_)
                clear hK K
                refine norm_ (a' := ?_) ?_ ?_
                rotate_left
                · show Act.put _ (some 40) _ = _
                  simp only [Act.put, List.setIfInBounds_toArray, List.set_cons_zero, List.set_cons_succ, i64_w, i32_w]
                  rfl
                refine one_ (i := 6) (N := some 45) #[true, true, true, true, true, true, true, true, true, true, true, false, false, false, false] rfl rfl (one_of HT_.out (by kernel_rfl)) (by decide) (fun K hK => ?_)
                refine Kd.R_append_rows_step (Kd.int .i64) (w0 := w) w.heap.size (by rfl) (.tmp 40) (.tmp 44) 22 3 (.int .i64 0) 8 rfl Try.underlying22 info3 rfl (by decide) (by omega) v183 y182 ((rd_T27 l0 0).f1) _ _ _ (fun _ => True) (fun _ => False) rfl rfl ?aO ?aR (fun _ _ h => h) (fun _ h => h.elim) ?aF ?aB ?aS ?aL ?_
                (case aR => repeat (first | exact (Kd.C_below HR185_1.out HB.out) | (with_reducible refine Kd.C_alloc ?_ _) | (with_reducible refine Kd.C_drewN ?_ _) | (with_reducible refine Kd.C_drew ?_)))
                (case aB => exact (by repeat (first | (with_reducible first | exact HB.out | apply below_alloc | apply pw_below_drewN | apply below_drew1 | refine below_set ?_ GE175.out) | exact HB.out)))
                (case aF => exact (fun _ _ => trivial))
                (case aO => exact (by (with_reducible repeat (first | apply Kd.R_alloc | apply Kd.R_drewN | apply Kd.R_drew)); exact HO184.out))
                (case aS => exact (below_size (by repeat (first | (with_reducible first | exact HB.out | apply below_alloc | apply pw_below_drewN | apply below_drew1 | refine below_set ?_ GE175.out) | exact HB.out))))
                (case aL => have := LMc20.out; omega)
                intro v187 w26 ho hb hg hat
                rw [← Ny186.out] at ho
                have n0_ := Aside0.mk (blk_grown (g := gb175) (o := .cells #[.int .i64 0, .slice none 0 0] 27 (0, 0)) (by (with_reducible repeat (first | refine blk_drewN ?_ _ | refine blk_drew ?_ | refine blk_alloc ?_ _)); exact BK175.out) hg (Kd.R_ne HO184.out BK175.out (by decide)))
                have n1_ := Aside0.mk (hb)
                have n2_ := Aside0.mk (ho)
                clear BK175
                clear HB
                clear HO184
                have BK175 := n0_
                have HB := n1_
                have HO188 := n2_
                clear n0_ n1_ n2_
                clear ho hb hg hat
                refine hK.out _ _ ⟨((HB.out.cell (World.block_lt_of_cell? w _ hw185_0)).trans hw185_0), ((HB.out.cell (World.block_lt_of_cell? w _ hw185_1)).trans hw185_1), ((HB.out.cell (World.block_lt_of_cell? w _ hw189_0)).trans hw189_0), ((HB.out.cell (World.block_lt_of_cell? w _ hw189_1)).trans hw189_1)⟩ (fun hHeld => ?_)
                clear hK K
                refine norm_ (a' := ?_) ?_ ?_
                rotate_left
                · show Act.put _ (some 45) _ = _
                  simp only [Act.put, List.setIfInBounds_toArray, List.set_cons_zero, List.set_cons_succ, i64_w, i32_w]
                  rfl
                refine one_ (i := 11) (N := some 50) #[true, true, true, true, true, true, true, true, true, true, true, true, false, false, false] rfl rfl (one_of HT_.out (by kernel_rfl)) (by decide) (fun K hK => ?_)
                refine Kd.R_append_rows_step (Kd.int .i64) (w0 := w) w.heap.size (by rfl) (.tmp 45) (.tmp 49) 22 3 (.int .i64 0) 8 rfl Try.underlying22 info3 rfl (by decide) (by omega) v187 y186 ((rd_T27 l0 1).f1) _ _ _ (fun _ => True) (fun _ => False) rfl rfl ?aO ?aR (fun _ _ h => h) (fun _ h => h.elim) ?aF ?aB ?aS ?aL ?_
                (case aR => repeat (first | exact (Kd.C_below HR189_1.out HB.out) | (with_reducible refine Kd.C_alloc ?_ _) | (with_reducible refine Kd.C_drewN ?_ _) | (with_reducible refine Kd.C_drew ?_)))
                (case aB => exact (by repeat (first | (with_reducible first | exact HB.out | apply below_alloc | apply pw_below_drewN | apply below_drew1 | refine below_set ?_ GE175.out) | exact HB.out)))
                (case aF => exact (fun _ _ => trivial))
                (case aO => exact (by (with_reducible repeat (first | apply Kd.R_alloc | apply Kd.R_drewN | apply Kd.R_drew)); exact HO188.out))
                (case aS => exact (below_size (by repeat (first | (with_reducible first | exact HB.out | apply below_alloc | apply pw_below_drewN | apply below_drew1 | refine below_set ?_ GE175.out) | exact HB.out))))
                (case aL => have := LMc22.out; omega)
                intro v191 w27 ho hb hg hat
                rw [← Ny190.out] at ho
                have n0_ := Aside0.mk (blk_grown (g := gb175) (o := .cells #[.int .i64 0, .slice none 0 0] 27 (0, 0)) (by (with_reducible repeat (first | refine blk_drewN ?_ _ | refine blk_drew ?_ | refine blk_alloc ?_ _)); exact BK175.out) hg (Kd.R_ne HO188.out BK175.out (by decide)))
                have n1_ := Aside0.mk (hb)
                have n2_ := Aside0.mk (ho)
                clear BK175
                clear HB
                clear HO188
                have BK175 := n0_
                have HB := n1_
                have HO192 := n2_
                clear n0_ n1_ n2_
                clear ho hb hg hat
                obtain ⟨Ao28, co28, eo28⟩ := Kd.R_slice HO192.out
                (first | subst eo28 | (injection eo28 with f1_ f2_ f3_; have f4_ := f1_.symm; have f5_ := f3_.symm; clear f1_ f2_ f3_; subst f4_; subst f5_))
                refine hK.out _ _ ⟨((HB.out.cell (World.block_lt_of_cell? w _ hw185_0)).trans hw185_0), ((HB.out.cell (World.block_lt_of_cell? w _ hw185_1)).trans hw185_1), ((HB.out.cell (World.block_lt_of_cell? w _ hw189_0)).trans hw189_0), ((HB.out.cell (World.block_lt_of_cell? w _ hw189_1)).trans hw189_1)⟩ (fun hHeld => ?_)
                clear hK K
                refine norm_ (a' := ?_) ?_ ?_
                rotate_left
                · show Act.put _ (some 50) _ = _
                  simp only [Act.put, List.setIfInBounds_toArray, List.set_cons_zero, List.set_cons_succ, i64_w, i32_w]
                  rfl
                refine pure_ (i := 12) (N := some 51) (v := ?_) (a' := ?_) #[true, true, true, true, true, true, true, true, true, true, true, true, true, false, false] rfl rfl (any_of HT_.out (by kernel_rfl)) (fun _ _ _ h => h) (Or.inl ⟨by rfl, ?_⟩) ?_ ?_
                rotate_left
                · intro w'
                  go_simp
                  with_reducible rfl
                rotate_left
                · simp only [Act.put, List.setIfInBounds_toArray, List.set_cons_zero, List.set_cons_succ, i64_w, i32_w]
                  rfl
                refine one_ (i := 13) (N := none) #[true, true, true, true, true, true, true, true, true, true, true, true, true, true, false] rfl rfl (one_of HT_.out (by kernel_rfl)) (by decide) (fun K hK => ?_)
                have hs29 : w27.cell? ⟨gb175, 0, none⟩ = some (.int .i64 0) := (blk_cell BK175.out 0).trans rfl
                have hfs29 := blk_frozen BK175.out 0
                have hs30 : w27.cell? ⟨gb175, 1, none⟩ = some (.slice none 0 0) := (blk_cell BK175.out 1).trans rfl
                have hfs30 := blk_frozen BK175.out 1
                refine skip_ (w1 := ?_) (by rfl) rfl ?_ ?_
                rotate_left
                · go_simp
                  rfl
                refine hK.out _ _ ⟨((cell_far (p := ⟨gb175, _, none⟩) (by first | exact Nat.ne_of_lt (Nat.lt_of_lt_of_le (by have := World.block_lt_of_cell? _ _ hw185_0; first | rwa [add_block] at this | exact this) GW175.out) | (rw [add_block]; exact Nat.ne_of_lt (Nat.lt_of_lt_of_le (by have := World.block_lt_of_cell? _ _ hw185_0; first | rwa [add_block] at this | exact this) GW175.out)) | (show (Addr.add _ _).block ≠ _; rw [add_block]; exact Nat.ne_of_lt (Nat.lt_of_lt_of_le (by have := World.block_lt_of_cell? _ _ hw185_0; first | rwa [add_block] at this | exact this) GW175.out)) | (dsimp only; exact Nat.ne_of_lt (Nat.lt_of_lt_of_le (by have := World.block_lt_of_cell? _ _ hw185_0; first | rwa [add_block] at this | exact this) GW175.out))) _).trans (((cell_far (p := ⟨gb175, _, none⟩) (by first | exact Nat.ne_of_lt (Nat.lt_of_lt_of_le (by have := World.block_lt_of_cell? _ _ hw185_0; first | rwa [add_block] at this | exact this) GW175.out) | (rw [add_block]; exact Nat.ne_of_lt (Nat.lt_of_lt_of_le (by have := World.block_lt_of_cell? _ _ hw185_0; first | rwa [add_block] at this | exact this) GW175.out)) | (show (Addr.add _ _).block ≠ _; rw [add_block]; exact Nat.ne_of_lt (Nat.lt_of_lt_of_le (by have := World.block_lt_of_cell? _ _ hw185_0; first | rwa [add_block] at this | exact this) GW175.out)) | (dsimp only; exact Nat.ne_of_lt (Nat.lt_of_lt_of_le (by have := World.block_lt_of_cell? _ _ hw185_0; first | rwa [add_block] at this | exact this) GW175.out))) _).trans (hHeld.1)))), ((cell_far (p := ⟨gb175, _, none⟩) (by first | exact Nat.ne_of_lt (Nat.lt_of_lt_of_le (by have := World.block_lt_of_cell? _ _ hw185_1; first | rwa [add_block] at this | exact this) GW175.out) | (rw [add_block]; exact Nat.ne_of_lt (Nat.lt_of_lt_of_le (by have := World.block_lt_of_cell? _ _ hw185_1; first | rwa [add_block] at this | exact this) GW175.out)) | (show (Addr.add _ _).block ≠ _; rw [add_block]; exact Nat.ne_of_lt (Nat.lt_of_lt_of_le (by have := World.block_lt_of_cell? _ _ hw185_1; first | rwa [add_block] at this | exact this) GW175.out)) | (dsimp only; exact Nat.ne_of_lt (Nat.lt_of_lt_of_le (by have := World.block_lt_of_cell? _ _ hw185_1; first | rwa [add_block] at this | exact this) GW175.out))) _).trans (((cell_far (p := ⟨gb175, _, none⟩) (by first | exact Nat.ne_of_lt (Nat.lt_of_lt_of_le (by have := World.block_lt_of_cell? _ _ hw185_1; first | rwa [add_block] at this | exact this) GW175.out) | (rw [add_block]; exact Nat.ne_of_lt (Nat.lt_of_lt_of_le (by have := World.block_lt_of_cell? _ _ hw185_1; first | rwa [add_block] at this | exact this) GW175.out)) | (show (Addr.add _ _).block ≠ _; rw [add_block]; exact Nat.ne_of_lt (Nat.lt_of_lt_of_le (by have := World.block_lt_of_cell? _ _ hw185_1; first | rwa [add_block] at this | exact this) GW175.out)) | (dsimp only; exact Nat.ne_of_lt (Nat.lt_of_lt_of_le (by have := World.block_lt_of_cell? _ _ hw185_1; first | rwa [add_block] at this | exact this) GW175.out))) _).trans (hHeld.2.1)))), ((cell_far (p := ⟨gb175, _, none⟩) (by first | exact Nat.ne_of_lt (Nat.lt_of_lt_of_le (by have := World.block_lt_of_cell? _ _ hw189_0; first | rwa [add_block] at this | exact this) GW175.out) | (rw [add_block]; exact Nat.ne_of_lt (Nat.lt_of_lt_of_le (by have := World.block_lt_of_cell? _ _ hw189_0; first | rwa [add_block] at this | exact this) GW175.out)) | (show (Addr.add _ _).block ≠ _; rw [add_block]; exact Nat.ne_of_lt (Nat.lt_of_lt_of_le (by have := World.block_lt_of_cell? _ _ hw189_0; first | rwa [add_block] at this | exact this) GW175.out)) | (dsimp only; exact Nat.ne_of_lt (Nat.lt_of_lt_of_le (by have := World.block_lt_of_cell? _ _ hw189_0; first | rwa [add_block] at this | exact this) GW175.out))) _).trans (((cell_far (p := ⟨gb175, _, none⟩) (by first | exact Nat.ne_of_lt (Nat.lt_of_lt_of_le (by have := World.block_lt_of_cell? _ _ hw189_0; first | rwa [add_block] at this | exact this) GW175.out) | (rw [add_block]; exact Nat.ne_of_lt (Nat.lt_of_lt_of_le (by have := World.block_lt_of_cell? _ _ hw189_0; first | rwa [add_block] at this | exact this) GW175.out)) | (show (Addr.add _ _).block ≠ _; rw [add_block]; exact Nat.ne_of_lt (Nat.lt_of_lt_of_le (by have := World.block_lt_of_cell? _ _ hw189_0; first | rwa [add_block] at this | exact this) GW175.out)) | (dsimp only; exact Nat.ne_of_lt (Nat.lt_of_lt_of_le (by have := World.block_lt_of_cell? _ _ hw189_0; first | rwa [add_block] at this | exact this) GW175.out))) _).trans (hHeld.2.2.1)))), ((cell_far (p := ⟨gb175, _, none⟩) (by first | exact Nat.ne_of_lt (Nat.lt_of_lt_of_le (by have := World.block_lt_of_cell? _ _ hw189_1; first | rwa [add_block] at this | exact this) GW175.out) | (rw [add_block]; exact Nat.ne_of_lt (Nat.lt_of_lt_of_le (by have := World.block_lt_of_cell? _ _ hw189_1; first | rwa [add_block] at this | exact this) GW175.out)) | (show (Addr.add _ _).block ≠ _; rw [add_block]; exact Nat.ne_of_lt (Nat.lt_of_lt_of_le (by have := World.block_lt_of_cell? _ _ hw189_1; first | rwa [add_block] at this | exact this) GW175.out)) | (dsimp only; exact Nat.ne_of_lt (Nat.lt_of_lt_of_le (by have := World.block_lt_of_cell? _ _ hw189_1; first | rwa [add_block] at this | exact this) GW175.out))) _).trans (((cell_far (p := ⟨gb175, _, none⟩) (by first | exact Nat.ne_of_lt (Nat.lt_of_lt_of_le (by have := World.block_lt_of_cell? _ _ hw189_1; first | rwa [add_block] at this | exact this) GW175.out) | (rw [add_block]; exact Nat.ne_of_lt (Nat.lt_of_lt_of_le (by have := World.block_lt_of_cell? _ _ hw189_1; first | rwa [add_block] at this | exact this) GW175.out)) | (show (Addr.add _ _).block ≠ _; rw [add_block]; exact Nat.ne_of_lt (Nat.lt_of_lt_of_le (by have := World.block_lt_of_cell? _ _ hw189_1; first | rwa [add_block] at this | exact this) GW175.out)) | (dsimp only; exact Nat.ne_of_lt (Nat.lt_of_lt_of_le (by have := World.block_lt_of_cell? _ _ hw189_1; first | rwa [add_block] at this | exact this) GW175.out))) _).trans (hHeld.2.2.2))))⟩ (fun hHeld => ?_)
                clear hK K
                refine pure_ (i := 14) (N := some 9) (v := ?_) (a' := ?_) #[true, true, true, true, true, true, true, true, true, true, true, true, true, true, true] rfl rfl (any_of HT_.out (by kernel_rfl)) (fun _ _ _ h => h) (Or.inl ⟨by rfl, ?_⟩) ?_ ?_
                rotate_left
                · intro w'
                  go_simp
                  with_reducible rfl
                rotate_left
                · simp only [Act.put, List.setIfInBounds_toArray, List.set_cons_zero, List.set_cons_succ, i64_w, i32_w]
                  rfl
                refine done_ (done_of HT_.out (by kernel_rfl)) ?_
                try go_wp2
                refine bodyPost_ret (results_ct rfl _ _ gb175 27 #[.int .i64 a3, .slice Ao28 y190.length co28] (0, 0) _ rfl (by (with_reducible repeat (first | refine blk_drewN ?_ _ | refine blk_drew ?_ | refine blk_alloc ?_ _)); refine blk_put (cs := #[.int .i64 a3, .slice none 0 0]) ?_ 1 _ rfl; (with_reducible repeat (first | refine blk_drewN ?_ _ | refine blk_drew ?_ | refine blk_alloc ?_ _)); refine blk_put (cs := #[.int .i64 0, .slice none 0 0]) ?_ 0 _ rfl; (with_reducible repeat (first | refine blk_drewN ?_ _ | refine blk_drew ?_ | refine blk_alloc ?_ _)); exact BK175.out) Try.underlying27 rfl (by kernel_rfl)) rfl ?_
                exact ⟨_, by first | rfl | (simp [errW_none, errW_some] <;> rfl) | (simp [*, errW_none, errW_some] <;> rfl), by (with_reducible repeat (first | apply Kd.R_alloc | apply Kd.R_drewN | apply Kd.R_drew)); exact Kd.R_mono (Kd.R_far (p := ⟨gb175, 1, none⟩) (Kd.R_far (p := ⟨gb175, 0, none⟩) (Kd.R_types HO192.out BK175.out (by decide)) (fun _ hk => hk.2) (.int .i64 a3)) (fun _ hk => hk.2) (.slice Ao28 y190.length co28)) (fun _ hk => trivial), by repeat (first | (with_reducible first | exact HB.out | apply below_alloc | apply pw_below_drewN | apply below_drew1 | refine below_set ?_ GE175.out) | exact HB.out)⟩
              · rw [if_neg c22] at H
                exact absurd H (by simp)
            · rw [if_neg c21] at H
              exact absurd H (by simp)
          · rw [if_neg c20] at H
            exact absurd H (by simp)
        · rw [if_neg c19] at H
          exact absurd H (by simp)
namespace Ev
noncomputable def ref8_both.F (a : List S27 × Int × Int × Int) : Option (S27 × Bool) := (interlocutorref8_both.f 100 a.1 a.2.1 a.2.2.1 a.2.2.2).map fun r => (⟨r.1, r.2.1⟩, r.2.2)
theorem ref8_both.good : Good 77 (sp (oc sV (oc sI (oc sI (o1 sI)))) (oc s1 (o1 sB)) ref8_both.F) := good_of _ _ _ (fn := Try.f77) (by kernel_rfl) (by kernel_rfl) (by kernel_rfl) fun a b hF S w args hS ha => by
  obtain ⟨l⟩ := args
  match l, ha with
  | [v, x, y, z], ⟨hv, hx, hy, hz, _⟩ =>
    obtain rfl : x = .int .i64 a.2.1 := hx
    obtain rfl : y = .int .i64 a.2.2.1 := hy
    obtain rfl : z = .int .i64 a.2.2.2 := hz
    obtain ⟨A, c, e, h1, h2⟩ := hv.1.kd
    subst e
    unfold ref8_both.F at hF
    obtain ⟨r, hr, rfl⟩ := Option.map_eq_some_iff.mp hF
    obtain ⟨r1, r2, r3⟩ := r
    exact (interlocutorref8_both.calls 100 A c a.1 a.2.1 a.2.2.1 a.2.2.2 r1 r2 r3 w h2 h1 hr).mono fun e w' ⟨v1, he, hR, hb⟩ => ⟨⟨_, he, _, rfl, ⟨_, rfl, rfl, ⟨SlI.of_R hR hS, nofalse⟩, trivial⟩, rfl, trivial⟩, hb⟩
end Ev
end Go.Proofs.Ytldfljlklfhjkaa.PE
