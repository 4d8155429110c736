/- Each call of a function that is printed here answers what its plain Lean function answers; written by a program of this session (wip/myprint.py) over the kit's print. Conditions: that the plain function answers. -/
import Derived.Test.YtldfljlklfhjkaaPKix0
import Derived.Test.YtldfljlklfhjkaaPKix7
import Derived.Test.YtldfljlklfhjkaaPKix8
import Derived.Test.YtldfljlklfhjkaaPKix10
namespace Go.Proofs.Ytldfljlklfhjkaa.PKi
open Go.RowKit Go.Proofs.YtldfljlklfhjkaaW.PrintWords Go.Proofs.YtldfljlklfhjkaaW.PrintLast Go.Proofs.YtldfljlklfhjkaaW.PrintMore
attribute [local go_sem] max2_int min2_int max_two min_two max_three min_three max_four min_four   -- for this text's walks alone
set_option linter.unusedVariables false
set_option linter.unusedSimpArgs false

/-! ### act_maker_negative: function 69 -/
set_option maxHeartbeats 2000000 in
set_option maxRecDepth 100000 in
theorem negative_no0 (op : Int) (A : Option Addr) (n c : Nat) (y m d h i s : Int) (w : World)
    (h1 : ∀ W, Below w.heap.size w W → Calls Try.prog 95 #[.agg #[.int .i64 op, .slice A n c, .int .i64 y, .int .i64 m, .int .i64 d, .int .i64 h, .int .i64 i, .int .i64 s], .int .i64 0, .int .i64 7] W (Dies W)) :
    Calls Try.prog 69 #[.agg #[.int .i64 op, .slice A n c, .int .i64 y, .int .i64 m, .int .i64 d, .int .i64 h, .int .i64 i, .int .i64 s]] w (Dies w) := by
  have g1 := Aside0.mk h1
  clear h1
  have HE := Aside0.mk (Env.start w #[.int .i64 op, .slice A n c, .int .i64 y, .int .i64 m, .int .i64 d, .int .i64 h, .int .i64 i, .int .i64 s])
  go_enter Try.func69, Try.ntmps69
  go_wp2_with (first | (go_at_call 95; (with_reducible refine calls_any (Env w #[.int .i64 op, .slice A n c, .int .i64 y, .int .i64 m, .int .i64 d, .int .i64 h, .int .i64 i, .int .i64 s]) (by repeat (first | exact HE.out | apply Env.alloc | apply Env.drewN | apply Env.drew)) ?_); intro W6 hE; refine (g1.out _ hE.below).mono ?_; rintro e w6 ⟨⟨u, pv, rfl⟩, hb⟩; have HB6 := Aside0.mk hE; have HB7 := Aside0.mk hb; clear hE hb))
  exact dies_end rfl HB6.out.below HB7.out
set_option maxHeartbeats 2000000 in
set_option maxRecDepth 100000 in
theorem made_11_no (A : Option Addr) (n c : Nat) (y m d h i s : Int) (w : World)
    (hm : ∀ W, Below w.heap.size w W → Calls Try.prog 69 #[.agg #[.int .i64 11, .slice A n c, .int .i64 y, .int .i64 m, .int .i64 d, .int .i64 h, .int .i64 i, .int .i64 s]] W (Dies W)) :
    Calls Try.prog 41 #[.agg #[.int .i64 11, .slice A n c, .int .i64 y, .int .i64 m, .int .i64 d, .int .i64 h, .int .i64 i, .int .i64 s]] w (Dies w) := by
  have g1 := Aside0.mk hm
  clear hm
  have HE := Aside0.mk (Env.start w #[.int .i64 11, .slice A n c, .int .i64 y, .int .i64 m, .int .i64 d, .int .i64 h, .int .i64 i, .int .i64 s])
  have hmf : ∀ (fn : Fn) (first cap : Array Value) (w : World), (Instr.makeFunc fn first cap).run Try.prog w = .ok (.func fn first cap) w := fun _ _ _ _ => rfl
  go_enter Try.func41, Try.ntmps41
  go_wp2_with (first | (go_at_call 39; refine (act_must.calls _ _ _ rfl).mono ?_; rintro e w' ⟨rfl, ⟨nd, rfl⟩⟩) | (go_at_call 69; refine calls_any (Env w #[.int .i64 11, .slice A n c, .int .i64 y, .int .i64 m, .int .i64 d, .int .i64 h, .int .i64 i, .int .i64 s]) (by repeat (first | exact HE.out | apply Env.alloc | apply Env.drewN | apply Env.drew)) ?_; intro Wc hE; refine (g1.out _ hE.below).mono ?_; rintro e w1 ⟨⟨u, pv, rfl⟩, hb⟩))
  exact dies_end rfl hE.below hb
theorem made_11_dies3 (A : Option Addr) (c : Nat) (l : List S27) (y m d h i s : Int) (w : World) (hr : Kd.C k27 w A l.length l) (hl : 0 < l.length) (h3 : (rd_T27 l 0).f0 = 3) :
    Calls Try.prog 41 #[.agg #[.int .i64 11, .slice A l.length c, .int .i64 y, .int .i64 m, .int .i64 d, .int .i64 h, .int .i64 i, .int .i64 s]] w (Dies w) := by
  generalize hop : (11 : Int) = op
  have hM : ∀ W, Below w.heap.size w W → Calls Try.prog 69 #[.agg #[.int .i64 op, .slice A l.length c, .int .i64 y, .int .i64 m, .int .i64 d, .int .i64 h, .int .i64 i, .int .i64 s]] W (Dies W) := fun W2 hB2 =>
    negative_no0 op A l.length c y m d h i s W2 (fun W hB3 => by
      have hB := below_then hB2 hB2.size hB3
      exact of_no op A c l y m d h i s 0 7 W (Kd.C_below hr hB) (by omega) (by omega) (by rw [h3]; decide))
  subst hop
  exact made_11_no A l.length c y m d h i s w hM


/-! ### act_maker_money: function 70 -/
set_option maxHeartbeats 2000000 in
set_option maxRecDepth 100000 in
theorem money_no0 (op : Int) (A : Option Addr) (n c : Nat) (y m d h i s : Int) (w : World)
    (h1 : ∀ W, Below w.heap.size w W → Calls Try.prog 93 #[.agg #[.int .i64 op, .slice A n c, .int .i64 y, .int .i64 m, .int .i64 d, .int .i64 h, .int .i64 i, .int .i64 s], .int .i64 0] W (Dies W)) :
    Calls Try.prog 70 #[.agg #[.int .i64 op, .slice A n c, .int .i64 y, .int .i64 m, .int .i64 d, .int .i64 h, .int .i64 i, .int .i64 s]] w (Dies w) := by
  have g1 := Aside0.mk h1
  clear h1
  have HE := Aside0.mk (Env.start w #[.int .i64 op, .slice A n c, .int .i64 y, .int .i64 m, .int .i64 d, .int .i64 h, .int .i64 i, .int .i64 s])
  go_enter Try.func70, Try.ntmps70
  go_wp2_with fail
  go_region_held2 (fun w' => w'.cell? ⟨w.heap.size, 0, none⟩ = some (.int .i64 op) ∧ w'.cell? ⟨w.heap.size, 1, none⟩ = some (.slice A n c) ∧ w'.cell? ⟨w.heap.size, 2, none⟩ = some (.int .i64 y) ∧ w'.cell? ⟨w.heap.size, 3, none⟩ = some (.int .i64 m) ∧ w'.cell? ⟨w.heap.size, 4, none⟩ = some (.int .i64 d) ∧ w'.cell? ⟨w.heap.size, 5, none⟩ = some (.int .i64 h) ∧ w'.cell? ⟨w.heap.size, 6, none⟩ = some (.int .i64 i) ∧ w'.cell? ⟨w.heap.size, 7, none⟩ = some (.int .i64 s)) ((first | exact hF.out.elim | (go_keep; done) | exact Env.k8 (by repeat (first | exact HE.out | apply Env.alloc | apply Env.drewN | apply Env.drew)))) (first | (go_at_call 93; (with_reducible refine die_or (.int .i64 0) (g1.out _ ?_) ?_ ?_); (· exact Env.below (kc := #[.int .i64 op, .slice A n c, .int .i64 y, .int .i64 m, .int .i64 d, .int .i64 h, .int .i64 i, .int .i64 s]) (by repeat (first | exact HE.out | apply Env.alloc | apply Env.drewN | apply Env.drew))); (· rintro e w9 ⟨⟨u, pv, rfl⟩, hb⟩; exact dies_end rfl (Env.below (kc := #[.int .i64 op, .slice A n c, .int .i64 y, .int .i64 m, .int .i64 d, .int .i64 h, .int .i64 i, .int .i64 s]) (by repeat (first | exact HE.out | apply Env.alloc | apply Env.drewN | apply Env.drew))) hb); rintro e w9 ⟨rfl, hF⟩; have z0 : w9.cell? ⟨w.heap.size + 1, 0, none⟩ = some (.int .i64 0) := hF.out.elim; have z1 : w9.cell? ⟨w.heap.size + 1, 1, none⟩ = some (.slice none 0 0) := hF.out.elim; have z2 : w9.frozen? ⟨w.heap.size + 1, 0, none⟩ = false := hF.out.elim; have z3 : w9.frozen? ⟨w.heap.size + 1, 1, none⟩ = false := hF.out.elim) | (go_at_call 95; refine die_or (D := fun _ _ => False) (.slice (some ⟨w.heap.size, 2, none⟩) 2 2) hF.out.elim (fun _ _ h => h.elim) ?_; rintro e w8 ⟨rfl, hF2⟩; have z0 : w8.cell? ⟨w.heap.size + 1, 0, none⟩ = some (.int .i64 0) := hF.out.elim; have z1 : w8.cell? ⟨w.heap.size + 1, 1, none⟩ = some (.slice none 0 0) := hF.out.elim; have z2 : w8.frozen? ⟨w.heap.size + 1, 0, none⟩ = false := hF.out.elim; have z3 : w8.frozen? ⟨w.heap.size + 1, 1, none⟩ = false := hF.out.elim))
  all_goals exact hF.out.elim
set_option maxHeartbeats 2000000 in
set_option maxRecDepth 100000 in
theorem made_12_no (A : Option Addr) (n c : Nat) (y m d h i s : Int) (w : World)
    (hm : ∀ W, Below w.heap.size w W → Calls Try.prog 70 #[.agg #[.int .i64 12, .slice A n c, .int .i64 y, .int .i64 m, .int .i64 d, .int .i64 h, .int .i64 i, .int .i64 s]] W (Dies W)) :
    Calls Try.prog 41 #[.agg #[.int .i64 12, .slice A n c, .int .i64 y, .int .i64 m, .int .i64 d, .int .i64 h, .int .i64 i, .int .i64 s]] w (Dies w) := by
  have g1 := Aside0.mk hm
  clear hm
  have HE := Aside0.mk (Env.start w #[.int .i64 12, .slice A n c, .int .i64 y, .int .i64 m, .int .i64 d, .int .i64 h, .int .i64 i, .int .i64 s])
  have hmf : ∀ (fn : Fn) (first cap : Array Value) (w : World), (Instr.makeFunc fn first cap).run Try.prog w = .ok (.func fn first cap) w := fun _ _ _ _ => rfl
  go_enter Try.func41, Try.ntmps41
  go_wp2_with (first | (go_at_call 39; refine (act_must.calls _ _ _ rfl).mono ?_; rintro e w' ⟨rfl, ⟨nd, rfl⟩⟩) | (go_at_call 70; refine calls_any (Env w #[.int .i64 12, .slice A n c, .int .i64 y, .int .i64 m, .int .i64 d, .int .i64 h, .int .i64 i, .int .i64 s]) (by repeat (first | exact HE.out | apply Env.alloc | apply Env.drewN | apply Env.drew)) ?_; intro Wc hE; refine (g1.out _ hE.below).mono ?_; rintro e w1 ⟨⟨u, pv, rfl⟩, hb⟩))
  exact dies_end rfl hE.below hb
theorem made_12_dies3 (A : Option Addr) (c : Nat) (l : List S27) (y m d h i s : Int) (w : World) (hr : Kd.C k27 w A l.length l) (hl : 0 < l.length) (h3 : (rd_T27 l 0).f0 = 3) :
    Calls Try.prog 41 #[.agg #[.int .i64 12, .slice A l.length c, .int .i64 y, .int .i64 m, .int .i64 d, .int .i64 h, .int .i64 i, .int .i64 s]] w (Dies w) := by
  generalize hop : (12 : Int) = op
  have hM : ∀ W, Below w.heap.size w W → Calls Try.prog 70 #[.agg #[.int .i64 op, .slice A l.length c, .int .i64 y, .int .i64 m, .int .i64 d, .int .i64 h, .int .i64 i, .int .i64 s]] W (Dies W) := fun W2 hB2 =>
    money_no0 op A l.length c y m d h i s W2 (fun W hB3 => by
      have hB := below_then hB2 hB2.size hB3
      exact word_no op A c l y m d h i s 0 W (Kd.C_below hr hB) (by omega) (by omega) (by rw [h3]; decide))
  subst hop
  exact made_12_no A l.length c y m d h i s w hM


/-! ### act_maker_duration: function 71 -/
set_option maxHeartbeats 2000000 in
set_option maxRecDepth 100000 in
theorem duration_no0 (op : Int) (A : Option Addr) (n c : Nat) (y m d h i s : Int) (w : World)
    (h1 : ∀ W, Below w.heap.size w W → Calls Try.prog 92 #[.agg #[.int .i64 op, .slice A n c, .int .i64 y, .int .i64 m, .int .i64 d, .int .i64 h, .int .i64 i, .int .i64 s], .int .i64 0] W (Dies W)) :
    Calls Try.prog 71 #[.agg #[.int .i64 op, .slice A n c, .int .i64 y, .int .i64 m, .int .i64 d, .int .i64 h, .int .i64 i, .int .i64 s]] w (Dies w) := by
  have g1 := Aside0.mk h1
  clear h1
  have HE := Aside0.mk (Env.start w #[.int .i64 op, .slice A n c, .int .i64 y, .int .i64 m, .int .i64 d, .int .i64 h, .int .i64 i, .int .i64 s])
  go_enter Try.func71, Try.ntmps71
  go_wp2_with fail
  go_region_held2 (fun w' => w'.cell? ⟨w.heap.size, 0, none⟩ = some (.int .i64 op) ∧ w'.cell? ⟨w.heap.size, 1, none⟩ = some (.slice A n c) ∧ w'.cell? ⟨w.heap.size, 2, none⟩ = some (.int .i64 y) ∧ w'.cell? ⟨w.heap.size, 3, none⟩ = some (.int .i64 m) ∧ w'.cell? ⟨w.heap.size, 4, none⟩ = some (.int .i64 d) ∧ w'.cell? ⟨w.heap.size, 5, none⟩ = some (.int .i64 h) ∧ w'.cell? ⟨w.heap.size, 6, none⟩ = some (.int .i64 i) ∧ w'.cell? ⟨w.heap.size, 7, none⟩ = some (.int .i64 s)) ((first | exact hF.out.elim | (go_keep; done) | exact Env.k8 (by repeat (first | exact HE.out | apply Env.alloc | apply Env.drewN | apply Env.drew)))) (first | (go_at_call 92; (with_reducible refine die_or (.int .i64 0) (g1.out _ ?_) ?_ ?_); (· exact Env.below (kc := #[.int .i64 op, .slice A n c, .int .i64 y, .int .i64 m, .int .i64 d, .int .i64 h, .int .i64 i, .int .i64 s]) (by repeat (first | exact HE.out | apply Env.alloc | apply Env.drewN | apply Env.drew))); (· rintro e w9 ⟨⟨u, pv, rfl⟩, hb⟩; exact dies_end rfl (Env.below (kc := #[.int .i64 op, .slice A n c, .int .i64 y, .int .i64 m, .int .i64 d, .int .i64 h, .int .i64 i, .int .i64 s]) (by repeat (first | exact HE.out | apply Env.alloc | apply Env.drewN | apply Env.drew))) hb); rintro e w9 ⟨rfl, hF⟩; have z0 : w9.cell? ⟨w.heap.size + 1, 0, none⟩ = some (.int .i64 0) := hF.out.elim; have z1 : w9.cell? ⟨w.heap.size + 1, 1, none⟩ = some (.slice none 0 0) := hF.out.elim; have z2 : w9.frozen? ⟨w.heap.size + 1, 0, none⟩ = false := hF.out.elim; have z3 : w9.frozen? ⟨w.heap.size + 1, 1, none⟩ = false := hF.out.elim) | (go_at_call 93; refine die_or (D := fun _ _ => False) (.int .i64 0) hF.out.elim (fun _ _ h => h.elim) ?_; rintro e w8 ⟨rfl, hF2⟩; have z0 : w8.cell? ⟨w.heap.size + 1, 0, none⟩ = some (.int .i64 0) := hF.out.elim; have z1 : w8.cell? ⟨w.heap.size + 1, 1, none⟩ = some (.slice none 0 0) := hF.out.elim; have z2 : w8.frozen? ⟨w.heap.size + 1, 0, none⟩ = false := hF.out.elim; have z3 : w8.frozen? ⟨w.heap.size + 1, 1, none⟩ = false := hF.out.elim))
  all_goals exact hF.out.elim
set_option maxHeartbeats 2000000 in
set_option maxRecDepth 100000 in
theorem made_13_no (A : Option Addr) (n c : Nat) (y m d h i s : Int) (w : World)
    (hm : ∀ W, Below w.heap.size w W → Calls Try.prog 71 #[.agg #[.int .i64 13, .slice A n c, .int .i64 y, .int .i64 m, .int .i64 d, .int .i64 h, .int .i64 i, .int .i64 s]] W (Dies W)) :
    Calls Try.prog 41 #[.agg #[.int .i64 13, .slice A n c, .int .i64 y, .int .i64 m, .int .i64 d, .int .i64 h, .int .i64 i, .int .i64 s]] w (Dies w) := by
  have g1 := Aside0.mk hm
  clear hm
  have HE := Aside0.mk (Env.start w #[.int .i64 13, .slice A n c, .int .i64 y, .int .i64 m, .int .i64 d, .int .i64 h, .int .i64 i, .int .i64 s])
  have hmf : ∀ (fn : Fn) (first cap : Array Value) (w : World), (Instr.makeFunc fn first cap).run Try.prog w = .ok (.func fn first cap) w := fun _ _ _ _ => rfl
  go_enter Try.func41, Try.ntmps41
  go_wp2_with (first | (go_at_call 39; refine (act_must.calls _ _ _ rfl).mono ?_; rintro e w' ⟨rfl, ⟨nd, rfl⟩⟩) | (go_at_call 71; refine calls_any (Env w #[.int .i64 13, .slice A n c, .int .i64 y, .int .i64 m, .int .i64 d, .int .i64 h, .int .i64 i, .int .i64 s]) (by repeat (first | exact HE.out | apply Env.alloc | apply Env.drewN | apply Env.drew)) ?_; intro Wc hE; refine (g1.out _ hE.below).mono ?_; rintro e w1 ⟨⟨u, pv, rfl⟩, hb⟩))
  exact dies_end rfl hE.below hb
theorem made_13_dies3 (A : Option Addr) (c : Nat) (l : List S27) (y m d h i s : Int) (w : World) (hr : Kd.C k27 w A l.length l) (hl : 0 < l.length) (h3 : (rd_T27 l 0).f0 = 3) :
    Calls Try.prog 41 #[.agg #[.int .i64 13, .slice A l.length c, .int .i64 y, .int .i64 m, .int .i64 d, .int .i64 h, .int .i64 i, .int .i64 s]] w (Dies w) := by
  generalize hop : (13 : Int) = op
  have hM : ∀ W, Below w.heap.size w W → Calls Try.prog 71 #[.agg #[.int .i64 op, .slice A l.length c, .int .i64 y, .int .i64 m, .int .i64 d, .int .i64 h, .int .i64 i, .int .i64 s]] W (Dies W) := fun W2 hB2 =>
    duration_no0 op A l.length c y m d h i s W2 (fun W hB3 => by
      have hB := below_then hB2 hB2.size hB3
      exact count_no op A c l y m d h i s 0 W (Kd.C_below hr hB) (by omega) (by omega) (by rw [h3]; decide) (by rw [h3]; decide))
  subst hop
  exact made_13_no A l.length c y m d h i s w hM


/-! ### act_maker_sum: function 72 -/
set_option maxHeartbeats 2000000 in
set_option maxRecDepth 100000 in
theorem sum_no0 (op : Int) (A : Option Addr) (n c : Nat) (y m d h i s : Int) (w : World)
    (h1 : ∀ W, Below w.heap.size w W → Calls Try.prog 95 #[.agg #[.int .i64 op, .slice A n c, .int .i64 y, .int .i64 m, .int .i64 d, .int .i64 h, .int .i64 i, .int .i64 s], .int .i64 0, .int .i64 9] W (Dies W)) :
    Calls Try.prog 72 #[.agg #[.int .i64 op, .slice A n c, .int .i64 y, .int .i64 m, .int .i64 d, .int .i64 h, .int .i64 i, .int .i64 s]] w (Dies w) := by
  have g1 := Aside0.mk h1
  clear h1
  have HE := Aside0.mk (Env.start w #[.int .i64 op, .slice A n c, .int .i64 y, .int .i64 m, .int .i64 d, .int .i64 h, .int .i64 i, .int .i64 s])
  go_enter Try.func72, Try.ntmps72
  go_wp2_with fail
  go_region_held2 (fun w' => w'.cell? ⟨w.heap.size, 0, none⟩ = some (.int .i64 op) ∧ w'.cell? ⟨w.heap.size, 1, none⟩ = some (.slice A n c) ∧ w'.cell? ⟨w.heap.size, 2, none⟩ = some (.int .i64 y) ∧ w'.cell? ⟨w.heap.size, 3, none⟩ = some (.int .i64 m) ∧ w'.cell? ⟨w.heap.size, 4, none⟩ = some (.int .i64 d) ∧ w'.cell? ⟨w.heap.size, 5, none⟩ = some (.int .i64 h) ∧ w'.cell? ⟨w.heap.size, 6, none⟩ = some (.int .i64 i) ∧ w'.cell? ⟨w.heap.size, 7, none⟩ = some (.int .i64 s)) ((first | exact hF.out.elim | (go_keep; done) | exact Env.k8 (by repeat (first | exact HE.out | apply Env.alloc | apply Env.drewN | apply Env.drew)))) (first | (go_at_call 95; (with_reducible refine die_or (.slice (some ⟨w.heap.size, 2, none⟩) 2 2) (g1.out _ ?_) ?_ ?_); (· exact Env.below (kc := #[.int .i64 op, .slice A n c, .int .i64 y, .int .i64 m, .int .i64 d, .int .i64 h, .int .i64 i, .int .i64 s]) (by repeat (first | exact HE.out | apply Env.alloc | apply Env.drewN | apply Env.drew))); (· rintro e w9 ⟨⟨u, pv, rfl⟩, hb⟩; exact dies_end rfl (Env.below (kc := #[.int .i64 op, .slice A n c, .int .i64 y, .int .i64 m, .int .i64 d, .int .i64 h, .int .i64 i, .int .i64 s]) (by repeat (first | exact HE.out | apply Env.alloc | apply Env.drewN | apply Env.drew))) hb); rintro e w9 ⟨rfl, hF⟩; have z0 : w9.cell? ⟨w.heap.size + 1, 0, none⟩ = some (.int .i64 0) := hF.out.elim; have z1 : w9.cell? ⟨w.heap.size + 1, 1, none⟩ = some (.slice none 0 0) := hF.out.elim; have z2 : w9.frozen? ⟨w.heap.size + 1, 0, none⟩ = false := hF.out.elim; have z3 : w9.frozen? ⟨w.heap.size + 1, 1, none⟩ = false := hF.out.elim) | (go_at_call 95; refine die_or (D := fun _ _ => False) (.slice (some ⟨w.heap.size, 2, none⟩) 2 2) hF.out.elim (fun _ _ h => h.elim) ?_; rintro e w8 ⟨rfl, hF2⟩; have z0 : w8.cell? ⟨w.heap.size + 1, 0, none⟩ = some (.int .i64 0) := hF.out.elim; have z1 : w8.cell? ⟨w.heap.size + 1, 1, none⟩ = some (.slice none 0 0) := hF.out.elim; have z2 : w8.frozen? ⟨w.heap.size + 1, 0, none⟩ = false := hF.out.elim; have z3 : w8.frozen? ⟨w.heap.size + 1, 1, none⟩ = false := hF.out.elim) | (go_at_call 40; refine die_or (D := fun _ _ => False) (.agg #[.int .i64 0, .slice none 0 0]) hF.out.elim (fun _ _ h => h.elim) ?_; rintro e w8 ⟨rfl, hF2⟩; have z0 : w8.cell? ⟨w.heap.size + 1, 0, none⟩ = some (.int .i64 0) := hF.out.elim; have z1 : w8.cell? ⟨w.heap.size + 1, 1, none⟩ = some (.slice none 0 0) := hF.out.elim; have z2 : w8.frozen? ⟨w.heap.size + 1, 0, none⟩ = false := hF.out.elim; have z3 : w8.frozen? ⟨w.heap.size + 1, 1, none⟩ = false := hF.out.elim))
  all_goals exact hF.out.elim
set_option maxHeartbeats 2000000 in
set_option maxRecDepth 100000 in
theorem made_14_no (A : Option Addr) (n c : Nat) (y m d h i s : Int) (w : World)
    (hm : ∀ W, Below w.heap.size w W → Calls Try.prog 72 #[.agg #[.int .i64 14, .slice A n c, .int .i64 y, .int .i64 m, .int .i64 d, .int .i64 h, .int .i64 i, .int .i64 s]] W (Dies W)) :
    Calls Try.prog 41 #[.agg #[.int .i64 14, .slice A n c, .int .i64 y, .int .i64 m, .int .i64 d, .int .i64 h, .int .i64 i, .int .i64 s]] w (Dies w) := by
  have g1 := Aside0.mk hm
  clear hm
  have HE := Aside0.mk (Env.start w #[.int .i64 14, .slice A n c, .int .i64 y, .int .i64 m, .int .i64 d, .int .i64 h, .int .i64 i, .int .i64 s])
  have hmf : ∀ (fn : Fn) (first cap : Array Value) (w : World), (Instr.makeFunc fn first cap).run Try.prog w = .ok (.func fn first cap) w := fun _ _ _ _ => rfl
  go_enter Try.func41, Try.ntmps41
  go_wp2_with (first | (go_at_call 39; refine (act_must.calls _ _ _ rfl).mono ?_; rintro e w' ⟨rfl, ⟨nd, rfl⟩⟩) | (go_at_call 72; refine calls_any (Env w #[.int .i64 14, .slice A n c, .int .i64 y, .int .i64 m, .int .i64 d, .int .i64 h, .int .i64 i, .int .i64 s]) (by repeat (first | exact HE.out | apply Env.alloc | apply Env.drewN | apply Env.drew)) ?_; intro Wc hE; refine (g1.out _ hE.below).mono ?_; rintro e w1 ⟨⟨u, pv, rfl⟩, hb⟩))
  exact dies_end rfl hE.below hb
theorem made_14_dies3 (A : Option Addr) (c : Nat) (l : List S27) (y m d h i s : Int) (w : World) (hr : Kd.C k27 w A l.length l) (hl : 0 < l.length) (h3 : (rd_T27 l 0).f0 = 3) :
    Calls Try.prog 41 #[.agg #[.int .i64 14, .slice A l.length c, .int .i64 y, .int .i64 m, .int .i64 d, .int .i64 h, .int .i64 i, .int .i64 s]] w (Dies w) := by
  generalize hop : (14 : Int) = op
  have hM : ∀ W, Below w.heap.size w W → Calls Try.prog 72 #[.agg #[.int .i64 op, .slice A l.length c, .int .i64 y, .int .i64 m, .int .i64 d, .int .i64 h, .int .i64 i, .int .i64 s]] W (Dies W) := fun W2 hB2 =>
    sum_no0 op A l.length c y m d h i s W2 (fun W hB3 => by
      have hB := below_then hB2 hB2.size hB3
      exact of_no op A c l y m d h i s 0 9 W (Kd.C_below hr hB) (by omega) (by omega) (by rw [h3]; decide))
  subst hop
  exact made_14_no A l.length c y m d h i s w hM


/-! ### act_maker_span: function 73 -/
set_option maxHeartbeats 2000000 in
set_option maxRecDepth 100000 in
theorem span_no0 (op : Int) (A : Option Addr) (n c : Nat) (y m d h i s : Int) (w : World)
    (h1 : ∀ W, Below w.heap.size w W → Calls Try.prog 95 #[.agg #[.int .i64 op, .slice A n c, .int .i64 y, .int .i64 m, .int .i64 d, .int .i64 h, .int .i64 i, .int .i64 s], .int .i64 0, .int .i64 4] W (Dies W)) :
    Calls Try.prog 73 #[.agg #[.int .i64 op, .slice A n c, .int .i64 y, .int .i64 m, .int .i64 d, .int .i64 h, .int .i64 i, .int .i64 s]] w (Dies w) := by
  have g1 := Aside0.mk h1
  clear h1
  have HE := Aside0.mk (Env.start w #[.int .i64 op, .slice A n c, .int .i64 y, .int .i64 m, .int .i64 d, .int .i64 h, .int .i64 i, .int .i64 s])
  go_enter Try.func73, Try.ntmps73
  go_wp2_with fail
  go_region_held2 (fun w' => w'.cell? ⟨w.heap.size, 0, none⟩ = some (.int .i64 op) ∧ w'.cell? ⟨w.heap.size, 1, none⟩ = some (.slice A n c) ∧ w'.cell? ⟨w.heap.size, 2, none⟩ = some (.int .i64 y) ∧ w'.cell? ⟨w.heap.size, 3, none⟩ = some (.int .i64 m) ∧ w'.cell? ⟨w.heap.size, 4, none⟩ = some (.int .i64 d) ∧ w'.cell? ⟨w.heap.size, 5, none⟩ = some (.int .i64 h) ∧ w'.cell? ⟨w.heap.size, 6, none⟩ = some (.int .i64 i) ∧ w'.cell? ⟨w.heap.size, 7, none⟩ = some (.int .i64 s)) ((first | exact hF.out.elim | (go_keep; done) | exact Env.k8 (by repeat (first | exact HE.out | apply Env.alloc | apply Env.drewN | apply Env.drew)))) (first | (go_at_call 95; (with_reducible refine die_or (.slice (some ⟨w.heap.size, 2, none⟩) 2 2) (g1.out _ ?_) ?_ ?_); (· exact Env.below (kc := #[.int .i64 op, .slice A n c, .int .i64 y, .int .i64 m, .int .i64 d, .int .i64 h, .int .i64 i, .int .i64 s]) (by repeat (first | exact HE.out | apply Env.alloc | apply Env.drewN | apply Env.drew))); (· rintro e w9 ⟨⟨u, pv, rfl⟩, hb⟩; exact dies_end rfl (Env.below (kc := #[.int .i64 op, .slice A n c, .int .i64 y, .int .i64 m, .int .i64 d, .int .i64 h, .int .i64 i, .int .i64 s]) (by repeat (first | exact HE.out | apply Env.alloc | apply Env.drewN | apply Env.drew))) hb); rintro e w9 ⟨rfl, hF⟩; have z0 : w9.cell? ⟨w.heap.size + 1, 0, none⟩ = some (.int .i64 0) := hF.out.elim; have z1 : w9.cell? ⟨w.heap.size + 1, 1, none⟩ = some (.slice none 0 0) := hF.out.elim; have z2 : w9.frozen? ⟨w.heap.size + 1, 0, none⟩ = false := hF.out.elim; have z3 : w9.frozen? ⟨w.heap.size + 1, 1, none⟩ = false := hF.out.elim) | (go_at_call 95; refine die_or (D := fun _ _ => False) (.slice (some ⟨w.heap.size, 2, none⟩) 2 2) hF.out.elim (fun _ _ h => h.elim) ?_; rintro e w8 ⟨rfl, hF2⟩; have z0 : w8.cell? ⟨w.heap.size + 1, 0, none⟩ = some (.int .i64 0) := hF.out.elim; have z1 : w8.cell? ⟨w.heap.size + 1, 1, none⟩ = some (.slice none 0 0) := hF.out.elim; have z2 : w8.frozen? ⟨w.heap.size + 1, 0, none⟩ = false := hF.out.elim; have z3 : w8.frozen? ⟨w.heap.size + 1, 1, none⟩ = false := hF.out.elim) | (go_at_call 94; refine die_or (D := fun _ _ => False) (.slice none 0 0) hF.out.elim (fun _ _ h => h.elim) ?_; rintro e w8 ⟨rfl, hF2⟩; have z0 : w8.cell? ⟨w.heap.size + 1, 0, none⟩ = some (.int .i64 0) := hF.out.elim; have z1 : w8.cell? ⟨w.heap.size + 1, 1, none⟩ = some (.slice none 0 0) := hF.out.elim; have z2 : w8.frozen? ⟨w.heap.size + 1, 0, none⟩ = false := hF.out.elim; have z3 : w8.frozen? ⟨w.heap.size + 1, 1, none⟩ = false := hF.out.elim) | (go_at_call 40; refine die_or (D := fun _ _ => False) (.agg #[.int .i64 0, .slice none 0 0]) hF.out.elim (fun _ _ h => h.elim) ?_; rintro e w8 ⟨rfl, hF2⟩; have z0 : w8.cell? ⟨w.heap.size + 1, 0, none⟩ = some (.int .i64 0) := hF.out.elim; have z1 : w8.cell? ⟨w.heap.size + 1, 1, none⟩ = some (.slice none 0 0) := hF.out.elim; have z2 : w8.frozen? ⟨w.heap.size + 1, 0, none⟩ = false := hF.out.elim; have z3 : w8.frozen? ⟨w.heap.size + 1, 1, none⟩ = false := hF.out.elim))
  all_goals exact hF.out.elim
set_option maxHeartbeats 2000000 in
set_option maxRecDepth 100000 in
theorem made_15_no (A : Option Addr) (n c : Nat) (y m d h i s : Int) (w : World)
    (hm : ∀ W, Below w.heap.size w W → Calls Try.prog 73 #[.agg #[.int .i64 15, .slice A n c, .int .i64 y, .int .i64 m, .int .i64 d, .int .i64 h, .int .i64 i, .int .i64 s]] W (Dies W)) :
    Calls Try.prog 41 #[.agg #[.int .i64 15, .slice A n c, .int .i64 y, .int .i64 m, .int .i64 d, .int .i64 h, .int .i64 i, .int .i64 s]] w (Dies w) := by
  have g1 := Aside0.mk hm
  clear hm
  have HE := Aside0.mk (Env.start w #[.int .i64 15, .slice A n c, .int .i64 y, .int .i64 m, .int .i64 d, .int .i64 h, .int .i64 i, .int .i64 s])
  have hmf : ∀ (fn : Fn) (first cap : Array Value) (w : World), (Instr.makeFunc fn first cap).run Try.prog w = .ok (.func fn first cap) w := fun _ _ _ _ => rfl
  go_enter Try.func41, Try.ntmps41
  go_wp2_with (first | (go_at_call 39; refine (act_must.calls _ _ _ rfl).mono ?_; rintro e w' ⟨rfl, ⟨nd, rfl⟩⟩) | (go_at_call 73; refine calls_any (Env w #[.int .i64 15, .slice A n c, .int .i64 y, .int .i64 m, .int .i64 d, .int .i64 h, .int .i64 i, .int .i64 s]) (by repeat (first | exact HE.out | apply Env.alloc | apply Env.drewN | apply Env.drew)) ?_; intro Wc hE; refine (g1.out _ hE.below).mono ?_; rintro e w1 ⟨⟨u, pv, rfl⟩, hb⟩))
  exact dies_end rfl hE.below hb
theorem made_15_dies3 (A : Option Addr) (c : Nat) (l : List S27) (y m d h i s : Int) (w : World) (hr : Kd.C k27 w A l.length l) (hl : 0 < l.length) (h3 : (rd_T27 l 0).f0 = 3) :
    Calls Try.prog 41 #[.agg #[.int .i64 15, .slice A l.length c, .int .i64 y, .int .i64 m, .int .i64 d, .int .i64 h, .int .i64 i, .int .i64 s]] w (Dies w) := by
  generalize hop : (15 : Int) = op
  have hM : ∀ W, Below w.heap.size w W → Calls Try.prog 73 #[.agg #[.int .i64 op, .slice A l.length c, .int .i64 y, .int .i64 m, .int .i64 d, .int .i64 h, .int .i64 i, .int .i64 s]] W (Dies W) := fun W2 hB2 =>
    span_no0 op A l.length c y m d h i s W2 (fun W hB3 => by
      have hB := below_then hB2 hB2.size hB3
      exact of_no op A c l y m d h i s 0 4 W (Kd.C_below hr hB) (by omega) (by omega) (by rw [h3]; decide))
  subst hop
  exact made_15_no A l.length c y m d h i s w hM


end Go.Proofs.Ytldfljlklfhjkaa.PKi
