/- slices.Grow of no row, slices.Concat of two rows: what they answer. Conditions: that both are short. -/
import Derived.Test.YtldfljlklfhjkaaPFg1
import Derived.Test.YtldfljlklfhjkaaVWordsB
import Derived.Lib.AppendZerosOnto
import Derived.Lib.SliceRun
import Derived.Lib.Walk
namespace Go.Proofs.Ytldfljlklfhjkaa.PE
open Go.RowKit Go.Proofs.YtldfljlklfhjkaaW.PrintWords Go.Proofs.YtldfljlklfhjkaaW.PrintLast Go.Proofs.YtldfljlklfhjkaaW.PrintMore
set_option linter.unusedVariables false
set_option linter.unusedSimpArgs false
namespace Ev
theorem grown_row (w : World) (cells : Array Value) (G : Nat) (hs : cells.size = G) (hG : G ≤ maxLen) : Kd.R (Kd.int .i64) 3 (w.drew.alloc (.cells cells 3)) w.heap.size (fun _ => True) (.slice (some ⟨w.heap.size, 0, none⟩) 0 G) [] :=
  ⟨fun _ _ => trivial, [], ⟨rfl, .inr ⟨w.heap.size, G, cells, rfl, Nat.le_refl _, heap_alloc_new w.drew (.cells cells 3), Nat.zero_le _, hG, hs.trans (Nat.mul_one G).symm, rfl⟩⟩, Reps.none _ _⟩
set_option maxHeartbeats 4000000 in
set_option maxRecDepth 100000 in
theorem grow_nil (L : Nat) (w : World) (h0 : 0 < L) (hL : L ≤ 1000000) :
    Calls Try.prog 110 #[.slice none 0 0, .int .i64 L] w fun e w' => ∃ v, e = .returned v ∧ Kd.R (Kd.int .i64) 3 w' w.heap.size (fun _ => True) v [] ∧ Below w.heap.size w w' := by
  have hGn : L ≤ grownCap w L 0 3 := grownCap_ge w _ _ _
  have hG63 : grownCap w L 0 3 ≤ maxLen := grownCap_le_maxLen w L 0 3 (by unfold maxLen; omega)
  have hzs : ∀ n, (Builtin.zeroCells (Value.int .i64 0).cells n).size = n := fun n => by simp [Builtin.zeroCells, Value.cells]
  have hrow := grown_row w (([] : List Value).toArray ++ Builtin.zeroCells (Value.int .i64 0).cells L ++ Builtin.zeroCells (Value.int .i64 0).cells (grownCap w L 0 3 - L)) _ (by
    rw [Array.size_append, Array.size_append, hzs, hzs]
    show 0 + L + (grownCap w L 0 3 - L) = grownCap w L 0 3
    omega) hG63
  have hB : Below w.heap.size w (w.drew.alloc (.cells (([] : List Value).toArray ++ Builtin.zeroCells (Value.int .i64 0).cells L ++ Builtin.zeroCells (Value.int .i64 0).cells (grownCap w L 0 3 - L)) 3)) := by
    exact below_alloc (below_drew (Below.refl _ _)) _
  have h1 : ¬ ((L : Int) < 0) := by omega
  have h2 : wrap64 ((0 : Int) - 0) = 0 := by unfold wrap64; omega
  have h3 : wrap64 ((L : Int) - 0) = (L : Int) := by unfold wrap64; omega
  have h4 : (L : Int) > 0 := by omega
  obtain ⟨i0, hi0, hz⟩ := Option.map_eq_some_iff.1 info3
  simp only [Prod.mk.injEq] at hz
  obtain ⟨z1, z2, z3⟩ := hz
  have hrz : ∀ ty, (Builtin.append_ #[22, 3] ty #[.slice none 0 0, .int .i64 (L : Int)]).run Try.prog w =
      .ok (.slice (some ⟨w.heap.size, 0, none⟩) L (grownCap w L 0 3)) (w.drew.alloc (.cells (([] : List Value).toArray ++ Builtin.zeroCells (Value.int .i64 0).cells L ++ Builtin.zeroCells (Value.int .i64 0).cells (grownCap w L 0 3 - L)) 3)) := fun ty => by
    have h := Lib.run_append_grow_zeros w 22 3 ty 3 i0 (.int .i64 0) .i64 .i64 Try.underlying22 Try.underlying3 hi0 z1 none 0 0 [] (run_firstCells_none w.drew i0.size 0 0 0) L h0 (by omega) (by omega) (by omega) (by rw [z3]; omega)
      (by rw [z3]; exact growslice_fits (by omega) (by omega))
    rw [Nat.zero_add] at h
    exact h
  obtain ⟨G, hG⟩ : ∃ G, G = grownCap w L 0 3 := ⟨_, rfl⟩
  rw [← hG] at hrz hGn hG63 hrow hB
  generalize (([] : List Value).toArray ++ Builtin.zeroCells (Value.int .i64 0).cells L ++ Builtin.zeroCells (Value.int .i64 0).cells (G - L)) = cells at *
  unfold maxLen at hG63
  clear hG
  go_enter Try.func110, Try.ntmps110
  go_wp2_with (at_builtin; refine Lib.wpList_append_run _ rfl _ _ _ _ rfl _ _ rfl rfl _ _ (hrz _) ?_)
  all_goals (go_ret; exact ⟨_, rfl, hrow, hB⟩)
set_option maxHeartbeats 4000000 in
set_option maxRecDepth 100000 in
theorem grow_any (L : Nat) (w : World) (hL : L ≤ 1000000) :
    Calls Try.prog 110 #[.slice none 0 0, .int .i64 L] w fun e w' => ∃ v, e = .returned v ∧ Kd.R (Kd.int .i64) 3 w' w.heap.size (fun _ => True) v [] ∧ Below w.heap.size w w' := by
  rcases Nat.eq_zero_or_pos L with rfl | h0
  · have hr := Kd.R_nil (Kd.int .i64) 3 w w.heap.size (fun _ => True)
    go_enter Try.func110, Try.ntmps110
    go_wp2
    go_ret
    exact ⟨_, rfl, hr, Below.refl _ _⟩
  · exact grow_nil L w h0 hL
/-- The rows' lengths, so far. -/
def sumTo (n m : Nat) : Nat → Int
  | 0 => 0
  | 1 => n
  | _ => n + m
def rowTo (l m : List Int) : Nat → List Int
  | 0 => []
  | 1 => l
  | _ => l ++ m
set_option maxHeartbeats 8000000 in
set_option maxRecDepth 100000 in
theorem concat_two (ad : Addr) (c : Nat) (A1 A2 : Option Addr) (c1 c2 : Nat) (l m : List Int) (w : World) (hsp : ad.spot = none) (x0 : w.cell? ad = some (.slice A1 l.length c1)) (x1 : w.cell? (ad.add 1) = some (.slice A2 m.length c2))
    (h1 : Kd.C (Kd.int .i64) w A1 l.length l) (h2 : Kd.C (Kd.int .i64) w A2 m.length m) (hl : l.length ≤ 1000) (hm : m.length ≤ 1000) :
    Calls Try.prog 94 #[.slice (some ad) 2 c] w fun e w' => ∃ v, e = .returned v ∧ Kd.R (Kd.int .i64) 3 w' w.heap.size (fun _ => True) v (l ++ m) ∧ Below w.heap.size w w' := by
  have X0 := Aside0.mk x0
  have X1 := Aside0.mk x1
  have H1 := Aside0.mk h1
  have H2 := Aside0.mk h2
  clear x0 x1 h1 h2
  have hu40 := Try.underlying40
  obtain ⟨g, off, sp⟩ := ad
  subst hsp
  have X1b := Aside0.mk (show w.cell? ⟨g, off + 1, none⟩ = some (.slice A2 m.length c2) by simpa [Addr.add] using X1.out)
  go_enter Try.func94, Try.ntmps94
  go_wp2_with fail
  go_loopg [3, 11] 2 (fun kq v3 v11 w' => ∃ j : Nat, kq + j = 2 ∧ v11 = .int .i64 (j : Int) ∧ v3 = .int .i64 (sumTo l.length m.length j) ∧ w' = w)
  case atStart => exact ⟨0, rfl, rfl, rfl, rfl⟩
  case round =>
    obtain ⟨j, hj, rfl, rfl, hw⟩ := hrel
    replace hw := hw.symm
    subst hw
    rcases (show j = 0 ∨ j = 1 ∨ j = 2 by omega) with rfl | rfl | rfl
    · have e1 : wrap64 (0 + (l.length : Int)) = l.length := by unfold wrap64; omega
      have e2 : ¬ ((l.length : Int) < 0) := by omega
      have x0 := X0.out
      simp only [sumTo]
      go_wp2_with fail
      go_roundg 1
      case measure => omega
      case rel => exact ⟨1, rfl, rfl, rfl, rfl⟩
    · have e1 : wrap64 ((l.length : Int) + (m.length : Int)) = l.length + m.length := by unfold wrap64; omega
      have e2 : ¬ ((l.length : Int) + m.length < 0) := by omega
      have x1 := X1b.out
      simp only [sumTo]
      go_wp2_with fail
      go_roundg 0
      case measure => omega
      case rel => exact ⟨2, rfl, rfl, rfl, rfl⟩
    · have e3 : sumTo l.length m.length 2 = ((l.length + m.length : Nat) : Int) := by simp [sumTo]
      rw [e3]
      go_wp2_with (go_at_call 110; refine (grow_any (l.length + m.length) _ (by omega)).mono ?_; rintro e w1 ⟨v1, rfl, hR, hB⟩)
      have HR := Aside0.mk hR
      have HB := Aside0.mk hB
      clear hR hB
      go_loopg [6, 27] 2 (fun kq v6 v27 w' => ∃ j : Nat, kq + j = 2 ∧ v27 = .int .i64 (j : Int) ∧ Aside0 (Kd.R (Kd.int .i64) 3 w' w.heap.size (fun _ => True) v6 (rowTo l m j)) ∧ Aside0 (Below w.heap.size w w'))
      case atStart => exact ⟨0, rfl, rfl, HR, HB⟩
      case round =>
        obtain ⟨j, hj, rfl, HR, HB⟩ := hrel
        rcases (show j = 0 ∨ j = 1 ∨ j = 2 by omega) with rfl | rfl | rfl
        · have x0 := pw_cell_below HB.out X0.out
          go_wp2_with (at_builtin; refine Kd.R_append_row (Value.int .i64) (0 : Int) (h1 := fun _ => rfl) (w0 := w) w.heap.size rfl (.tmp 31) (.tmp 32) 22 3 (.int .i64 0) 8 rfl Try.underlying22 info3 rfl (by decide) _ [] l A1 l.length c1 (fun _ => True) rfl rfl (fun _ _ => trivial) HR.out (Kd.C_below H1.out HB.out) HB.out HB.out.size (by have : ([] : List Int).length = 0 := rfl; omega) ?_; intro v2 w2 hR hB _ _; have HR2 := Aside0.mk hR; have HB2 := Aside0.mk hB; clear hR hB)
          go_roundg 1
          case measure => omega
          case rel => exact ⟨1, rfl, rfl, HR2, HB2⟩
        · have x1 := pw_cell_below HB.out X1b.out
          go_wp2_with (at_builtin; refine Kd.R_append_row (Value.int .i64) (0 : Int) (h1 := fun _ => rfl) (w0 := w) w.heap.size rfl (.tmp 31) (.tmp 32) 22 3 (.int .i64 0) 8 rfl Try.underlying22 info3 rfl (by decide) _ l m A2 m.length c2 (fun _ => True) rfl rfl (fun _ _ => trivial) HR.out (Kd.C_below H2.out HB.out) HB.out HB.out.size (by omega) ?_; intro v2 w2 hR hB _ _; have HR2 := Aside0.mk hR; have HB2 := Aside0.mk hB; clear hR hB)
          go_roundg 0
          case measure => omega
          case rel => exact ⟨2, rfl, rfl, HR2, HB2⟩
        · go_wp2_with fail
          go_ret
          exact ⟨_, rfl, HR.out, HB.out⟩
/-- Two rows, one behind the other. -/
noncomputable def slices_Concat.F (a : List (List Int)) : Option (List Int) := match a with
  | [l, m] => if l.length ≤ 1000 ∧ m.length ≤ 1000 then some (l ++ m) else none
  | _ => none
theorem slices_Concat.good : Good 94 (sp (o1 sR) (o1 sL) slices_Concat.F) := good_of _ _ _ (fn := Try.f94) (by kernel_rfl) (by kernel_rfl) (by kernel_rfl) fun a b hF S w args hS ha => by
  obtain ⟨vs⟩ := args
  match vs, ha with
  | [v], ⟨hv, _⟩ =>
    match a, hF, hv with
    | [l, m], hF, hv =>
      unfold slices_Concat.F at hF
      replace hF : (if l.length ≤ 1000 ∧ m.length ≤ 1000 then some (l ++ m) else none) = some b := hF
      by_cases hlm : l.length ≤ 1000 ∧ m.length ≤ 1000
      rotate_left
      · rw [if_neg hlm] at hF; cases hF
      rw [if_pos hlm] at hF
      obtain rfl := Option.some.inj hF
      obtain ⟨A, c, rfl, h1, h2, h3⟩ : SlR S w v [l, m] := hv
      obtain ⟨ad, rfl, hsp, hb, hc⟩ := h3 (by simp)
      obtain ⟨v0, g0, k0⟩ := hc 0 l rfl
      obtain ⟨v1, g1, k1⟩ := hc 1 m rfl
      obtain ⟨A1, c1, rfl, q1, r1⟩ := k0.kd
      obtain ⟨A2, c2, rfl, q2, r2⟩ := k1.kd
      exact (concat_two ad c A1 A2 c1 c2 l m w hsp (by rwa [show ad.add 0 = ad by simp [Addr.add]] at g0) g1 r1 r2 hlm.1 hlm.2).mono fun e w' ⟨v1, he, hR, hb⟩ => ⟨⟨_, he, SlI.of_R hR hS, nofalse⟩, hb⟩
end Ev
end Go.Proofs.Ytldfljlklfhjkaa.PE
