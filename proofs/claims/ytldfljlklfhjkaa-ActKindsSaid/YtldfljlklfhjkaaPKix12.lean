/- Each call of a function that is printed here answers what its plain Lean function answers; written by a program of this session (wip/myprint.py) over the kit's print. Conditions: that the plain function answers. -/
import Derived.Test.YtldfljlklfhjkaaPKix0
import Derived.Test.YtldfljlklfhjkaaPKix7
import Derived.Test.YtldfljlklfhjkaaPKix8
import Derived.Test.YtldfljlklfhjkaaPKix10
namespace Go.Proofs.Ytldfljlklfhjkaa.PKi
open Go.RowKit Go.Proofs.YtldfljlklfhjkaaW.PrintWords Go.Proofs.YtldfljlklfhjkaaW.PrintLast Go.Proofs.YtldfljlklfhjkaaW.PrintMore
attribute [local go_sem] max2_int min2_int max_two min_two max_three min_three max_four min_four   -- for this text's walks alone
set_option linter.unusedVariables false
set_option linter.unusedSimpArgs false

/-! ### act_maker_this: function 60 -/
set_option maxHeartbeats 2000000 in
set_option maxRecDepth 100000 in
theorem this_no0 (op : Int) (A : Option Addr) (n c : Nat) (y m d h i s : Int) (w : World)
    (h1 : ∀ W, Below w.heap.size w W → Calls Try.prog 92 #[.agg #[.int .i64 op, .slice A n c, .int .i64 y, .int .i64 m, .int .i64 d, .int .i64 h, .int .i64 i, .int .i64 s], .int .i64 0] W (Dies W)) :
    Calls Try.prog 60 #[.agg #[.int .i64 op, .slice A n c, .int .i64 y, .int .i64 m, .int .i64 d, .int .i64 h, .int .i64 i, .int .i64 s]] w (Dies w) := by
  have g1 := Aside0.mk h1
  clear h1
  have HE := Aside0.mk (Env.start w #[.int .i64 op, .slice A n c, .int .i64 y, .int .i64 m, .int .i64 d, .int .i64 h, .int .i64 i, .int .i64 s])
  go_enter Try.func60, Try.ntmps60
  go_wp2_with fail
  go_region_held2 (fun w' => w'.cell? ⟨w.heap.size, 0, none⟩ = some (.int .i64 op) ∧ w'.cell? ⟨w.heap.size, 1, none⟩ = some (.slice A n c) ∧ w'.cell? ⟨w.heap.size, 2, none⟩ = some (.int .i64 y) ∧ w'.cell? ⟨w.heap.size, 3, none⟩ = some (.int .i64 m) ∧ w'.cell? ⟨w.heap.size, 4, none⟩ = some (.int .i64 d) ∧ w'.cell? ⟨w.heap.size, 5, none⟩ = some (.int .i64 h) ∧ w'.cell? ⟨w.heap.size, 6, none⟩ = some (.int .i64 i) ∧ w'.cell? ⟨w.heap.size, 7, none⟩ = some (.int .i64 s)) ((first | exact hF.out.elim | (go_keep; done) | exact Env.k8 (by repeat (first | exact HE.out | apply Env.alloc | apply Env.drewN | apply Env.drew)))) (first | (go_at_call 92; (with_reducible refine die_or (.int .i64 0) (g1.out _ ?_) ?_ ?_); (· exact Env.below (kc := #[.int .i64 op, .slice A n c, .int .i64 y, .int .i64 m, .int .i64 d, .int .i64 h, .int .i64 i, .int .i64 s]) (by repeat (first | exact HE.out | apply Env.alloc | apply Env.drewN | apply Env.drew))); (· rintro e w9 ⟨⟨u, pv, rfl⟩, hb⟩; exact dies_end rfl (Env.below (kc := #[.int .i64 op, .slice A n c, .int .i64 y, .int .i64 m, .int .i64 d, .int .i64 h, .int .i64 i, .int .i64 s]) (by repeat (first | exact HE.out | apply Env.alloc | apply Env.drewN | apply Env.drew))) hb); rintro e w9 ⟨rfl, hF⟩; have z0 : w9.cell? ⟨w.heap.size + 1, 0, none⟩ = some (.int .i64 0) := hF.out.elim; have z1 : w9.cell? ⟨w.heap.size + 1, 1, none⟩ = some (.slice none 0 0) := hF.out.elim; have z2 : w9.frozen? ⟨w.heap.size + 1, 0, none⟩ = false := hF.out.elim; have z3 : w9.frozen? ⟨w.heap.size + 1, 1, none⟩ = false := hF.out.elim) | (go_at_call 91; refine die_or (D := fun _ _ => False) (.int .i64 0) hF.out.elim (fun _ _ h => h.elim) ?_; rintro e w8 ⟨rfl, hF2⟩; have z0 : w8.cell? ⟨w.heap.size + 1, 0, none⟩ = some (.int .i64 0) := hF.out.elim; have z1 : w8.cell? ⟨w.heap.size + 1, 1, none⟩ = some (.slice none 0 0) := hF.out.elim; have z2 : w8.frozen? ⟨w.heap.size + 1, 0, none⟩ = false := hF.out.elim; have z3 : w8.frozen? ⟨w.heap.size + 1, 1, none⟩ = false := hF.out.elim) | (go_at_call 40; refine die_or (D := fun _ _ => False) (.agg #[.int .i64 0, .slice none 0 0]) hF.out.elim (fun _ _ h => h.elim) ?_; rintro e w8 ⟨rfl, hF2⟩; have z0 : w8.cell? ⟨w.heap.size + 1, 0, none⟩ = some (.int .i64 0) := hF.out.elim; have z1 : w8.cell? ⟨w.heap.size + 1, 1, none⟩ = some (.slice none 0 0) := hF.out.elim; have z2 : w8.frozen? ⟨w.heap.size + 1, 0, none⟩ = false := hF.out.elim; have z3 : w8.frozen? ⟨w.heap.size + 1, 1, none⟩ = false := hF.out.elim))
  all_goals exact hF.out.elim
set_option maxHeartbeats 2000000 in
set_option maxRecDepth 100000 in
theorem made_2_no (A : Option Addr) (n c : Nat) (y m d h i s : Int) (w : World)
    (hm : ∀ W, Below w.heap.size w W → Calls Try.prog 60 #[.agg #[.int .i64 2, .slice A n c, .int .i64 y, .int .i64 m, .int .i64 d, .int .i64 h, .int .i64 i, .int .i64 s]] W (Dies W)) :
    Calls Try.prog 41 #[.agg #[.int .i64 2, .slice A n c, .int .i64 y, .int .i64 m, .int .i64 d, .int .i64 h, .int .i64 i, .int .i64 s]] w (Dies w) := by
  have g1 := Aside0.mk hm
  clear hm
  have HE := Aside0.mk (Env.start w #[.int .i64 2, .slice A n c, .int .i64 y, .int .i64 m, .int .i64 d, .int .i64 h, .int .i64 i, .int .i64 s])
  have hmf : ∀ (fn : Fn) (first cap : Array Value) (w : World), (Instr.makeFunc fn first cap).run Try.prog w = .ok (.func fn first cap) w := fun _ _ _ _ => rfl
  go_enter Try.func41, Try.ntmps41
  go_wp2_with (first | (go_at_call 39; refine (act_must.calls _ _ _ rfl).mono ?_; rintro e w' ⟨rfl, ⟨nd, rfl⟩⟩) | (go_at_call 60; refine calls_any (Env w #[.int .i64 2, .slice A n c, .int .i64 y, .int .i64 m, .int .i64 d, .int .i64 h, .int .i64 i, .int .i64 s]) (by repeat (first | exact HE.out | apply Env.alloc | apply Env.drewN | apply Env.drew)) ?_; intro Wc hE; refine (g1.out _ hE.below).mono ?_; rintro e w1 ⟨⟨u, pv, rfl⟩, hb⟩))
  exact dies_end rfl hE.below hb
theorem made_2_dies3 (A : Option Addr) (c : Nat) (l : List S27) (y m d h i s : Int) (w : World) (hr : Kd.C k27 w A l.length l) (hl : 0 < l.length) (h3 : (rd_T27 l 0).f0 = 3) :
    Calls Try.prog 41 #[.agg #[.int .i64 2, .slice A l.length c, .int .i64 y, .int .i64 m, .int .i64 d, .int .i64 h, .int .i64 i, .int .i64 s]] w (Dies w) := by
  generalize hop : (2 : Int) = op
  have hM : ∀ W, Below w.heap.size w W → Calls Try.prog 60 #[.agg #[.int .i64 op, .slice A l.length c, .int .i64 y, .int .i64 m, .int .i64 d, .int .i64 h, .int .i64 i, .int .i64 s]] W (Dies W) := fun W2 hB2 =>
    this_no0 op A l.length c y m d h i s W2 (fun W hB3 => by
      have hB := below_then hB2 hB2.size hB3
      exact count_no op A c l y m d h i s 0 W (Kd.C_below hr hB) (by omega) (by omega) (by rw [h3]; decide) (by rw [h3]; decide))
  subst hop
  exact made_2_no A l.length c y m d h i s w hM


/-! ### act_maker_time: function 61 -/
set_option maxHeartbeats 2000000 in
set_option maxRecDepth 100000 in
theorem time_no0 (op : Int) (A : Option Addr) (n c : Nat) (y m d h i s : Int) (w : World)
    (h1 : ∀ W, Below w.heap.size w W → Calls Try.prog 91 #[.agg #[.int .i64 op, .slice A n c, .int .i64 y, .int .i64 m, .int .i64 d, .int .i64 h, .int .i64 i, .int .i64 s], .int .i64 0] W (Dies W)) :
    Calls Try.prog 61 #[.agg #[.int .i64 op, .slice A n c, .int .i64 y, .int .i64 m, .int .i64 d, .int .i64 h, .int .i64 i, .int .i64 s]] w (Dies w) := by
  have g1 := Aside0.mk h1
  clear h1
  have HE := Aside0.mk (Env.start w #[.int .i64 op, .slice A n c, .int .i64 y, .int .i64 m, .int .i64 d, .int .i64 h, .int .i64 i, .int .i64 s])
  go_enter Try.func61, Try.ntmps61
  go_wp2_with fail
  go_region_held2 (fun w' => w'.cell? ⟨w.heap.size, 0, none⟩ = some (.int .i64 op) ∧ w'.cell? ⟨w.heap.size, 1, none⟩ = some (.slice A n c) ∧ w'.cell? ⟨w.heap.size, 2, none⟩ = some (.int .i64 y) ∧ w'.cell? ⟨w.heap.size, 3, none⟩ = some (.int .i64 m) ∧ w'.cell? ⟨w.heap.size, 4, none⟩ = some (.int .i64 d) ∧ w'.cell? ⟨w.heap.size, 5, none⟩ = some (.int .i64 h) ∧ w'.cell? ⟨w.heap.size, 6, none⟩ = some (.int .i64 i) ∧ w'.cell? ⟨w.heap.size, 7, none⟩ = some (.int .i64 s)) ((first | exact hF.out.elim | (go_keep; done) | exact Env.k8 (by repeat (first | exact HE.out | apply Env.alloc | apply Env.drewN | apply Env.drew)))) (first | (go_at_call 91; (with_reducible refine die_or (.int .i64 0) (g1.out _ ?_) ?_ ?_); (· exact Env.below (kc := #[.int .i64 op, .slice A n c, .int .i64 y, .int .i64 m, .int .i64 d, .int .i64 h, .int .i64 i, .int .i64 s]) (by repeat (first | exact HE.out | apply Env.alloc | apply Env.drewN | apply Env.drew))); (· rintro e w9 ⟨⟨u, pv, rfl⟩, hb⟩; exact dies_end rfl (Env.below (kc := #[.int .i64 op, .slice A n c, .int .i64 y, .int .i64 m, .int .i64 d, .int .i64 h, .int .i64 i, .int .i64 s]) (by repeat (first | exact HE.out | apply Env.alloc | apply Env.drewN | apply Env.drew))) hb); rintro e w9 ⟨rfl, hF⟩; have z0 : w9.cell? ⟨w.heap.size + 1, 0, none⟩ = some (.int .i64 0) := hF.out.elim; have z1 : w9.cell? ⟨w.heap.size + 1, 1, none⟩ = some (.slice none 0 0) := hF.out.elim; have z2 : w9.frozen? ⟨w.heap.size + 1, 0, none⟩ = false := hF.out.elim; have z3 : w9.frozen? ⟨w.heap.size + 1, 1, none⟩ = false := hF.out.elim) | (go_at_call 91; refine die_or (D := fun _ _ => False) (.int .i64 0) hF.out.elim (fun _ _ h => h.elim) ?_; rintro e w8 ⟨rfl, hF2⟩; have z0 : w8.cell? ⟨w.heap.size + 1, 0, none⟩ = some (.int .i64 0) := hF.out.elim; have z1 : w8.cell? ⟨w.heap.size + 1, 1, none⟩ = some (.slice none 0 0) := hF.out.elim; have z2 : w8.frozen? ⟨w.heap.size + 1, 0, none⟩ = false := hF.out.elim; have z3 : w8.frozen? ⟨w.heap.size + 1, 1, none⟩ = false := hF.out.elim))
  all_goals exact hF.out.elim
set_option maxHeartbeats 2000000 in
set_option maxRecDepth 100000 in
theorem made_3_no (A : Option Addr) (n c : Nat) (y m d h i s : Int) (w : World)
    (hm : ∀ W, Below w.heap.size w W → Calls Try.prog 61 #[.agg #[.int .i64 3, .slice A n c, .int .i64 y, .int .i64 m, .int .i64 d, .int .i64 h, .int .i64 i, .int .i64 s]] W (Dies W)) :
    Calls Try.prog 41 #[.agg #[.int .i64 3, .slice A n c, .int .i64 y, .int .i64 m, .int .i64 d, .int .i64 h, .int .i64 i, .int .i64 s]] w (Dies w) := by
  have g1 := Aside0.mk hm
  clear hm
  have HE := Aside0.mk (Env.start w #[.int .i64 3, .slice A n c, .int .i64 y, .int .i64 m, .int .i64 d, .int .i64 h, .int .i64 i, .int .i64 s])
  have hmf : ∀ (fn : Fn) (first cap : Array Value) (w : World), (Instr.makeFunc fn first cap).run Try.prog w = .ok (.func fn first cap) w := fun _ _ _ _ => rfl
  go_enter Try.func41, Try.ntmps41
  go_wp2_with (first | (go_at_call 39; refine (act_must.calls _ _ _ rfl).mono ?_; rintro e w' ⟨rfl, ⟨nd, rfl⟩⟩) | (go_at_call 61; refine calls_any (Env w #[.int .i64 3, .slice A n c, .int .i64 y, .int .i64 m, .int .i64 d, .int .i64 h, .int .i64 i, .int .i64 s]) (by repeat (first | exact HE.out | apply Env.alloc | apply Env.drewN | apply Env.drew)) ?_; intro Wc hE; refine (g1.out _ hE.below).mono ?_; rintro e w1 ⟨⟨u, pv, rfl⟩, hb⟩))
  exact dies_end rfl hE.below hb
theorem made_3_dies3 (A : Option Addr) (c : Nat) (l : List S27) (y m d h i s : Int) (w : World) (hr : Kd.C k27 w A l.length l) (hl : 0 < l.length) (h3 : (rd_T27 l 0).f0 = 3) :
    Calls Try.prog 41 #[.agg #[.int .i64 3, .slice A l.length c, .int .i64 y, .int .i64 m, .int .i64 d, .int .i64 h, .int .i64 i, .int .i64 s]] w (Dies w) := by
  generalize hop : (3 : Int) = op
  have hM : ∀ W, Below w.heap.size w W → Calls Try.prog 61 #[.agg #[.int .i64 op, .slice A l.length c, .int .i64 y, .int .i64 m, .int .i64 d, .int .i64 h, .int .i64 i, .int .i64 s]] W (Dies W) := fun W2 hB2 =>
    time_no0 op A l.length c y m d h i s W2 (fun W hB3 => by
      have hB := below_then hB2 hB2.size hB3
      exact number_no op A c l y m d h i s 0 W (Kd.C_below hr hB) (by omega) (by omega) (by rw [h3]; decide))
  subst hop
  exact made_3_no A l.length c y m d h i s w hM


/-! ### act_maker_half: function 62 -/
set_option maxHeartbeats 2000000 in
set_option maxRecDepth 100000 in
theorem half_no0 (op : Int) (A : Option Addr) (n c : Nat) (y m d h i s : Int) (w : World)
    (h1 : ∀ W, Below w.heap.size w W → Calls Try.prog 91 #[.agg #[.int .i64 op, .slice A n c, .int .i64 y, .int .i64 m, .int .i64 d, .int .i64 h, .int .i64 i, .int .i64 s], .int .i64 0] W (Dies W)) :
    Calls Try.prog 62 #[.agg #[.int .i64 op, .slice A n c, .int .i64 y, .int .i64 m, .int .i64 d, .int .i64 h, .int .i64 i, .int .i64 s]] w (Dies w) := by
  have g1 := Aside0.mk h1
  clear h1
  have HE := Aside0.mk (Env.start w #[.int .i64 op, .slice A n c, .int .i64 y, .int .i64 m, .int .i64 d, .int .i64 h, .int .i64 i, .int .i64 s])
  go_enter Try.func62, Try.ntmps62
  go_wp2_with fail
  go_region_held2 (fun w' => w'.cell? ⟨w.heap.size, 0, none⟩ = some (.int .i64 op) ∧ w'.cell? ⟨w.heap.size, 1, none⟩ = some (.slice A n c) ∧ w'.cell? ⟨w.heap.size, 2, none⟩ = some (.int .i64 y) ∧ w'.cell? ⟨w.heap.size, 3, none⟩ = some (.int .i64 m) ∧ w'.cell? ⟨w.heap.size, 4, none⟩ = some (.int .i64 d) ∧ w'.cell? ⟨w.heap.size, 5, none⟩ = some (.int .i64 h) ∧ w'.cell? ⟨w.heap.size, 6, none⟩ = some (.int .i64 i) ∧ w'.cell? ⟨w.heap.size, 7, none⟩ = some (.int .i64 s)) ((first | exact hF.out.elim | (go_keep; done) | exact Env.k8 (by repeat (first | exact HE.out | apply Env.alloc | apply Env.drewN | apply Env.drew)))) (first | (go_at_call 91; (with_reducible refine die_or (.int .i64 0) (g1.out _ ?_) ?_ ?_); (· exact Env.below (kc := #[.int .i64 op, .slice A n c, .int .i64 y, .int .i64 m, .int .i64 d, .int .i64 h, .int .i64 i, .int .i64 s]) (by repeat (first | exact HE.out | apply Env.alloc | apply Env.drewN | apply Env.drew))); (· rintro e w9 ⟨⟨u, pv, rfl⟩, hb⟩; exact dies_end rfl (Env.below (kc := #[.int .i64 op, .slice A n c, .int .i64 y, .int .i64 m, .int .i64 d, .int .i64 h, .int .i64 i, .int .i64 s]) (by repeat (first | exact HE.out | apply Env.alloc | apply Env.drewN | apply Env.drew))) hb); rintro e w9 ⟨rfl, hF⟩; have z0 : w9.cell? ⟨w.heap.size + 1, 0, none⟩ = some (.int .i64 0) := hF.out.elim; have z1 : w9.cell? ⟨w.heap.size + 1, 1, none⟩ = some (.slice none 0 0) := hF.out.elim; have z2 : w9.frozen? ⟨w.heap.size + 1, 0, none⟩ = false := hF.out.elim; have z3 : w9.frozen? ⟨w.heap.size + 1, 1, none⟩ = false := hF.out.elim))
  all_goals exact hF.out.elim
set_option maxHeartbeats 2000000 in
set_option maxRecDepth 100000 in
theorem made_4_no (A : Option Addr) (n c : Nat) (y m d h i s : Int) (w : World)
    (hm : ∀ W, Below w.heap.size w W → Calls Try.prog 62 #[.agg #[.int .i64 4, .slice A n c, .int .i64 y, .int .i64 m, .int .i64 d, .int .i64 h, .int .i64 i, .int .i64 s]] W (Dies W)) :
    Calls Try.prog 41 #[.agg #[.int .i64 4, .slice A n c, .int .i64 y, .int .i64 m, .int .i64 d, .int .i64 h, .int .i64 i, .int .i64 s]] w (Dies w) := by
  have g1 := Aside0.mk hm
  clear hm
  have HE := Aside0.mk (Env.start w #[.int .i64 4, .slice A n c, .int .i64 y, .int .i64 m, .int .i64 d, .int .i64 h, .int .i64 i, .int .i64 s])
  have hmf : ∀ (fn : Fn) (first cap : Array Value) (w : World), (Instr.makeFunc fn first cap).run Try.prog w = .ok (.func fn first cap) w := fun _ _ _ _ => rfl
  go_enter Try.func41, Try.ntmps41
  go_wp2_with (first | (go_at_call 39; refine (act_must.calls _ _ _ rfl).mono ?_; rintro e w' ⟨rfl, ⟨nd, rfl⟩⟩) | (go_at_call 62; refine calls_any (Env w #[.int .i64 4, .slice A n c, .int .i64 y, .int .i64 m, .int .i64 d, .int .i64 h, .int .i64 i, .int .i64 s]) (by repeat (first | exact HE.out | apply Env.alloc | apply Env.drewN | apply Env.drew)) ?_; intro Wc hE; refine (g1.out _ hE.below).mono ?_; rintro e w1 ⟨⟨u, pv, rfl⟩, hb⟩))
  exact dies_end rfl hE.below hb
theorem made_4_dies3 (A : Option Addr) (c : Nat) (l : List S27) (y m d h i s : Int) (w : World) (hr : Kd.C k27 w A l.length l) (hl : 0 < l.length) (h3 : (rd_T27 l 0).f0 = 3) :
    Calls Try.prog 41 #[.agg #[.int .i64 4, .slice A l.length c, .int .i64 y, .int .i64 m, .int .i64 d, .int .i64 h, .int .i64 i, .int .i64 s]] w (Dies w) := by
  generalize hop : (4 : Int) = op
  have hM : ∀ W, Below w.heap.size w W → Calls Try.prog 62 #[.agg #[.int .i64 op, .slice A l.length c, .int .i64 y, .int .i64 m, .int .i64 d, .int .i64 h, .int .i64 i, .int .i64 s]] W (Dies W) := fun W2 hB2 =>
    half_no0 op A l.length c y m d h i s W2 (fun W hB3 => by
      have hB := below_then hB2 hB2.size hB3
      exact number_no op A c l y m d h i s 0 W (Kd.C_below hr hB) (by omega) (by omega) (by rw [h3]; decide))
  subst hop
  exact made_4_no A l.length c y m d h i s w hM


/-! ### act_maker_moment: function 63 -/
set_option maxHeartbeats 2000000 in
set_option maxRecDepth 100000 in
theorem moment_no0 (op : Int) (A : Option Addr) (n c : Nat) (y m d h i s : Int) (w : World)
    (h1 : ∀ W, Below w.heap.size w W → Calls Try.prog 95 #[.agg #[.int .i64 op, .slice A n c, .int .i64 y, .int .i64 m, .int .i64 d, .int .i64 h, .int .i64 i, .int .i64 s], .int .i64 0, .int .i64 4] W (Dies W)) :
    Calls Try.prog 63 #[.agg #[.int .i64 op, .slice A n c, .int .i64 y, .int .i64 m, .int .i64 d, .int .i64 h, .int .i64 i, .int .i64 s]] w (Dies w) := by
  have g1 := Aside0.mk h1
  clear h1
  have HE := Aside0.mk (Env.start w #[.int .i64 op, .slice A n c, .int .i64 y, .int .i64 m, .int .i64 d, .int .i64 h, .int .i64 i, .int .i64 s])
  go_enter Try.func63, Try.ntmps63
  go_wp2_with fail
  go_region_held2 (fun w' => w'.cell? ⟨w.heap.size, 0, none⟩ = some (.int .i64 op) ∧ w'.cell? ⟨w.heap.size, 1, none⟩ = some (.slice A n c) ∧ w'.cell? ⟨w.heap.size, 2, none⟩ = some (.int .i64 y) ∧ w'.cell? ⟨w.heap.size, 3, none⟩ = some (.int .i64 m) ∧ w'.cell? ⟨w.heap.size, 4, none⟩ = some (.int .i64 d) ∧ w'.cell? ⟨w.heap.size, 5, none⟩ = some (.int .i64 h) ∧ w'.cell? ⟨w.heap.size, 6, none⟩ = some (.int .i64 i) ∧ w'.cell? ⟨w.heap.size, 7, none⟩ = some (.int .i64 s)) ((first | exact hF.out.elim | (go_keep; done) | exact Env.k8 (by repeat (first | exact HE.out | apply Env.alloc | apply Env.drewN | apply Env.drew)))) (first | (go_at_call 95; (with_reducible refine die_or (.slice (some ⟨w.heap.size, 2, none⟩) 2 2) (g1.out _ ?_) ?_ ?_); (· exact Env.below (kc := #[.int .i64 op, .slice A n c, .int .i64 y, .int .i64 m, .int .i64 d, .int .i64 h, .int .i64 i, .int .i64 s]) (by repeat (first | exact HE.out | apply Env.alloc | apply Env.drewN | apply Env.drew))); (· rintro e w9 ⟨⟨u, pv, rfl⟩, hb⟩; exact dies_end rfl (Env.below (kc := #[.int .i64 op, .slice A n c, .int .i64 y, .int .i64 m, .int .i64 d, .int .i64 h, .int .i64 i, .int .i64 s]) (by repeat (first | exact HE.out | apply Env.alloc | apply Env.drewN | apply Env.drew))) hb); rintro e w9 ⟨rfl, hF⟩; have z0 : w9.cell? ⟨w.heap.size + 1, 0, none⟩ = some (.int .i64 0) := hF.out.elim; have z1 : w9.cell? ⟨w.heap.size + 1, 1, none⟩ = some (.slice none 0 0) := hF.out.elim; have z2 : w9.frozen? ⟨w.heap.size + 1, 0, none⟩ = false := hF.out.elim; have z3 : w9.frozen? ⟨w.heap.size + 1, 1, none⟩ = false := hF.out.elim) | (go_at_call 95; refine die_or (D := fun _ _ => False) (.slice (some ⟨w.heap.size, 2, none⟩) 2 2) hF.out.elim (fun _ _ h => h.elim) ?_; rintro e w8 ⟨rfl, hF2⟩; have z0 : w8.cell? ⟨w.heap.size + 1, 0, none⟩ = some (.int .i64 0) := hF.out.elim; have z1 : w8.cell? ⟨w.heap.size + 1, 1, none⟩ = some (.slice none 0 0) := hF.out.elim; have z2 : w8.frozen? ⟨w.heap.size + 1, 0, none⟩ = false := hF.out.elim; have z3 : w8.frozen? ⟨w.heap.size + 1, 1, none⟩ = false := hF.out.elim) | (go_at_call 94; refine die_or (D := fun _ _ => False) (.slice none 0 0) hF.out.elim (fun _ _ h => h.elim) ?_; rintro e w8 ⟨rfl, hF2⟩; have z0 : w8.cell? ⟨w.heap.size + 1, 0, none⟩ = some (.int .i64 0) := hF.out.elim; have z1 : w8.cell? ⟨w.heap.size + 1, 1, none⟩ = some (.slice none 0 0) := hF.out.elim; have z2 : w8.frozen? ⟨w.heap.size + 1, 0, none⟩ = false := hF.out.elim; have z3 : w8.frozen? ⟨w.heap.size + 1, 1, none⟩ = false := hF.out.elim) | (go_at_call 40; refine die_or (D := fun _ _ => False) (.agg #[.int .i64 0, .slice none 0 0]) hF.out.elim (fun _ _ h => h.elim) ?_; rintro e w8 ⟨rfl, hF2⟩; have z0 : w8.cell? ⟨w.heap.size + 1, 0, none⟩ = some (.int .i64 0) := hF.out.elim; have z1 : w8.cell? ⟨w.heap.size + 1, 1, none⟩ = some (.slice none 0 0) := hF.out.elim; have z2 : w8.frozen? ⟨w.heap.size + 1, 0, none⟩ = false := hF.out.elim; have z3 : w8.frozen? ⟨w.heap.size + 1, 1, none⟩ = false := hF.out.elim))
  all_goals exact hF.out.elim
set_option maxHeartbeats 2000000 in
set_option maxRecDepth 100000 in
theorem made_5_no (A : Option Addr) (n c : Nat) (y m d h i s : Int) (w : World)
    (hm : ∀ W, Below w.heap.size w W → Calls Try.prog 63 #[.agg #[.int .i64 5, .slice A n c, .int .i64 y, .int .i64 m, .int .i64 d, .int .i64 h, .int .i64 i, .int .i64 s]] W (Dies W)) :
    Calls Try.prog 41 #[.agg #[.int .i64 5, .slice A n c, .int .i64 y, .int .i64 m, .int .i64 d, .int .i64 h, .int .i64 i, .int .i64 s]] w (Dies w) := by
  have g1 := Aside0.mk hm
  clear hm
  have HE := Aside0.mk (Env.start w #[.int .i64 5, .slice A n c, .int .i64 y, .int .i64 m, .int .i64 d, .int .i64 h, .int .i64 i, .int .i64 s])
  have hmf : ∀ (fn : Fn) (first cap : Array Value) (w : World), (Instr.makeFunc fn first cap).run Try.prog w = .ok (.func fn first cap) w := fun _ _ _ _ => rfl
  go_enter Try.func41, Try.ntmps41
  go_wp2_with (first | (go_at_call 39; refine (act_must.calls _ _ _ rfl).mono ?_; rintro e w' ⟨rfl, ⟨nd, rfl⟩⟩) | (go_at_call 63; refine calls_any (Env w #[.int .i64 5, .slice A n c, .int .i64 y, .int .i64 m, .int .i64 d, .int .i64 h, .int .i64 i, .int .i64 s]) (by repeat (first | exact HE.out | apply Env.alloc | apply Env.drewN | apply Env.drew)) ?_; intro Wc hE; refine (g1.out _ hE.below).mono ?_; rintro e w1 ⟨⟨u, pv, rfl⟩, hb⟩))
  exact dies_end rfl hE.below hb
theorem made_5_dies3 (A : Option Addr) (c : Nat) (l : List S27) (y m d h i s : Int) (w : World) (hr : Kd.C k27 w A l.length l) (hl : 0 < l.length) (h3 : (rd_T27 l 0).f0 = 3) :
    Calls Try.prog 41 #[.agg #[.int .i64 5, .slice A l.length c, .int .i64 y, .int .i64 m, .int .i64 d, .int .i64 h, .int .i64 i, .int .i64 s]] w (Dies w) := by
  generalize hop : (5 : Int) = op
  have hM : ∀ W, Below w.heap.size w W → Calls Try.prog 63 #[.agg #[.int .i64 op, .slice A l.length c, .int .i64 y, .int .i64 m, .int .i64 d, .int .i64 h, .int .i64 i, .int .i64 s]] W (Dies W) := fun W2 hB2 =>
    moment_no0 op A l.length c y m d h i s W2 (fun W hB3 => by
      have hB := below_then hB2 hB2.size hB3
      exact of_no op A c l y m d h i s 0 4 W (Kd.C_below hr hB) (by omega) (by omega) (by rw [h3]; decide))
  subst hop
  exact made_5_no A l.length c y m d h i s w hM


/-! ### act_maker_relative: function 64 -/
set_option maxHeartbeats 2000000 in
set_option maxRecDepth 100000 in
theorem relative_no0 (op : Int) (A : Option Addr) (n c : Nat) (y m d h i s : Int) (w : World)
    (h1 : ∀ W, Below w.heap.size w W → Calls Try.prog 92 #[.agg #[.int .i64 op, .slice A n c, .int .i64 y, .int .i64 m, .int .i64 d, .int .i64 h, .int .i64 i, .int .i64 s], .int .i64 0] W (Dies W)) :
    Calls Try.prog 64 #[.agg #[.int .i64 op, .slice A n c, .int .i64 y, .int .i64 m, .int .i64 d, .int .i64 h, .int .i64 i, .int .i64 s]] w (Dies w) := by
  have g1 := Aside0.mk h1
  clear h1
  have HE := Aside0.mk (Env.start w #[.int .i64 op, .slice A n c, .int .i64 y, .int .i64 m, .int .i64 d, .int .i64 h, .int .i64 i, .int .i64 s])
  go_enter Try.func64, Try.ntmps64
  go_wp2_with fail
  go_region_held2 (fun w' => w'.cell? ⟨w.heap.size, 0, none⟩ = some (.int .i64 op) ∧ w'.cell? ⟨w.heap.size, 1, none⟩ = some (.slice A n c) ∧ w'.cell? ⟨w.heap.size, 2, none⟩ = some (.int .i64 y) ∧ w'.cell? ⟨w.heap.size, 3, none⟩ = some (.int .i64 m) ∧ w'.cell? ⟨w.heap.size, 4, none⟩ = some (.int .i64 d) ∧ w'.cell? ⟨w.heap.size, 5, none⟩ = some (.int .i64 h) ∧ w'.cell? ⟨w.heap.size, 6, none⟩ = some (.int .i64 i) ∧ w'.cell? ⟨w.heap.size, 7, none⟩ = some (.int .i64 s)) ((first | exact hF.out.elim | (go_keep; done) | exact Env.k8 (by repeat (first | exact HE.out | apply Env.alloc | apply Env.drewN | apply Env.drew)))) (first | (go_at_call 92; (with_reducible refine die_or (.int .i64 0) (g1.out _ ?_) ?_ ?_); (· exact Env.below (kc := #[.int .i64 op, .slice A n c, .int .i64 y, .int .i64 m, .int .i64 d, .int .i64 h, .int .i64 i, .int .i64 s]) (by repeat (first | exact HE.out | apply Env.alloc | apply Env.drewN | apply Env.drew))); (· rintro e w9 ⟨⟨u, pv, rfl⟩, hb⟩; exact dies_end rfl (Env.below (kc := #[.int .i64 op, .slice A n c, .int .i64 y, .int .i64 m, .int .i64 d, .int .i64 h, .int .i64 i, .int .i64 s]) (by repeat (first | exact HE.out | apply Env.alloc | apply Env.drewN | apply Env.drew))) hb); rintro e w9 ⟨rfl, hF⟩; have z0 : w9.cell? ⟨w.heap.size + 1, 0, none⟩ = some (.int .i64 0) := hF.out.elim; have z1 : w9.cell? ⟨w.heap.size + 1, 1, none⟩ = some (.slice none 0 0) := hF.out.elim; have z2 : w9.frozen? ⟨w.heap.size + 1, 0, none⟩ = false := hF.out.elim; have z3 : w9.frozen? ⟨w.heap.size + 1, 1, none⟩ = false := hF.out.elim) | (go_at_call 93; refine die_or (D := fun _ _ => False) (.int .i64 0) hF.out.elim (fun _ _ h => h.elim) ?_; rintro e w8 ⟨rfl, hF2⟩; have z0 : w8.cell? ⟨w.heap.size + 1, 0, none⟩ = some (.int .i64 0) := hF.out.elim; have z1 : w8.cell? ⟨w.heap.size + 1, 1, none⟩ = some (.slice none 0 0) := hF.out.elim; have z2 : w8.frozen? ⟨w.heap.size + 1, 0, none⟩ = false := hF.out.elim; have z3 : w8.frozen? ⟨w.heap.size + 1, 1, none⟩ = false := hF.out.elim))
  all_goals exact hF.out.elim
set_option maxHeartbeats 2000000 in
set_option maxRecDepth 100000 in
theorem made_6_no (A : Option Addr) (n c : Nat) (y m d h i s : Int) (w : World)
    (hm : ∀ W, Below w.heap.size w W → Calls Try.prog 64 #[.agg #[.int .i64 6, .slice A n c, .int .i64 y, .int .i64 m, .int .i64 d, .int .i64 h, .int .i64 i, .int .i64 s]] W (Dies W)) :
    Calls Try.prog 41 #[.agg #[.int .i64 6, .slice A n c, .int .i64 y, .int .i64 m, .int .i64 d, .int .i64 h, .int .i64 i, .int .i64 s]] w (Dies w) := by
  have g1 := Aside0.mk hm
  clear hm
  have HE := Aside0.mk (Env.start w #[.int .i64 6, .slice A n c, .int .i64 y, .int .i64 m, .int .i64 d, .int .i64 h, .int .i64 i, .int .i64 s])
  have hmf : ∀ (fn : Fn) (first cap : Array Value) (w : World), (Instr.makeFunc fn first cap).run Try.prog w = .ok (.func fn first cap) w := fun _ _ _ _ => rfl
  go_enter Try.func41, Try.ntmps41
  go_wp2_with (first | (go_at_call 39; refine (act_must.calls _ _ _ rfl).mono ?_; rintro e w' ⟨rfl, ⟨nd, rfl⟩⟩) | (go_at_call 64; refine calls_any (Env w #[.int .i64 6, .slice A n c, .int .i64 y, .int .i64 m, .int .i64 d, .int .i64 h, .int .i64 i, .int .i64 s]) (by repeat (first | exact HE.out | apply Env.alloc | apply Env.drewN | apply Env.drew)) ?_; intro Wc hE; refine (g1.out _ hE.below).mono ?_; rintro e w1 ⟨⟨u, pv, rfl⟩, hb⟩))
  exact dies_end rfl hE.below hb
theorem made_6_dies3 (A : Option Addr) (c : Nat) (l : List S27) (y m d h i s : Int) (w : World) (hr : Kd.C k27 w A l.length l) (hl : 0 < l.length) (h3 : (rd_T27 l 0).f0 = 3) :
    Calls Try.prog 41 #[.agg #[.int .i64 6, .slice A l.length c, .int .i64 y, .int .i64 m, .int .i64 d, .int .i64 h, .int .i64 i, .int .i64 s]] w (Dies w) := by
  generalize hop : (6 : Int) = op
  have hM : ∀ W, Below w.heap.size w W → Calls Try.prog 64 #[.agg #[.int .i64 op, .slice A l.length c, .int .i64 y, .int .i64 m, .int .i64 d, .int .i64 h, .int .i64 i, .int .i64 s]] W (Dies W) := fun W2 hB2 =>
    relative_no0 op A l.length c y m d h i s W2 (fun W hB3 => by
      have hB := below_then hB2 hB2.size hB3
      exact count_no op A c l y m d h i s 0 W (Kd.C_below hr hB) (by omega) (by omega) (by rw [h3]; decide) (by rw [h3]; decide))
  subst hop
  exact made_6_no A l.length c y m d h i s w hM


/-! ### act_maker_next: function 65 -/
set_option maxHeartbeats 2000000 in
set_option maxRecDepth 100000 in
theorem next_no0 (op : Int) (A : Option Addr) (n c : Nat) (y m d h i s : Int) (w : World)
    (h1 : ∀ W, Below w.heap.size w W → Calls Try.prog 93 #[.agg #[.int .i64 op, .slice A n c, .int .i64 y, .int .i64 m, .int .i64 d, .int .i64 h, .int .i64 i, .int .i64 s], .int .i64 0] W (Dies W)) :
    Calls Try.prog 65 #[.agg #[.int .i64 op, .slice A n c, .int .i64 y, .int .i64 m, .int .i64 d, .int .i64 h, .int .i64 i, .int .i64 s]] w (Dies w) := by
  have g1 := Aside0.mk h1
  clear h1
  have HE := Aside0.mk (Env.start w #[.int .i64 op, .slice A n c, .int .i64 y, .int .i64 m, .int .i64 d, .int .i64 h, .int .i64 i, .int .i64 s])
  go_enter Try.func65, Try.ntmps65
  go_wp2_with (first | (go_at_call 93; (with_reducible refine calls_any (Env w #[.int .i64 op, .slice A n c, .int .i64 y, .int .i64 m, .int .i64 d, .int .i64 h, .int .i64 i, .int .i64 s]) (by repeat (first | exact HE.out | apply Env.alloc | apply Env.drewN | apply Env.drew)) ?_); intro W6 hE; refine (g1.out _ hE.below).mono ?_; rintro e w6 ⟨⟨u, pv, rfl⟩, hb⟩; have HB6 := Aside0.mk hE; have HB7 := Aside0.mk hb; clear hE hb))
  exact dies_end rfl HB6.out.below HB7.out
set_option maxHeartbeats 2000000 in
set_option maxRecDepth 100000 in
theorem made_7_no (A : Option Addr) (n c : Nat) (y m d h i s : Int) (w : World)
    (hm : ∀ W, Below w.heap.size w W → Calls Try.prog 65 #[.agg #[.int .i64 7, .slice A n c, .int .i64 y, .int .i64 m, .int .i64 d, .int .i64 h, .int .i64 i, .int .i64 s]] W (Dies W)) :
    Calls Try.prog 41 #[.agg #[.int .i64 7, .slice A n c, .int .i64 y, .int .i64 m, .int .i64 d, .int .i64 h, .int .i64 i, .int .i64 s]] w (Dies w) := by
  have g1 := Aside0.mk hm
  clear hm
  have HE := Aside0.mk (Env.start w #[.int .i64 7, .slice A n c, .int .i64 y, .int .i64 m, .int .i64 d, .int .i64 h, .int .i64 i, .int .i64 s])
  have hmf : ∀ (fn : Fn) (first cap : Array Value) (w : World), (Instr.makeFunc fn first cap).run Try.prog w = .ok (.func fn first cap) w := fun _ _ _ _ => rfl
  go_enter Try.func41, Try.ntmps41
  go_wp2_with (first | (go_at_call 39; refine (act_must.calls _ _ _ rfl).mono ?_; rintro e w' ⟨rfl, ⟨nd, rfl⟩⟩) | (go_at_call 65; refine calls_any (Env w #[.int .i64 7, .slice A n c, .int .i64 y, .int .i64 m, .int .i64 d, .int .i64 h, .int .i64 i, .int .i64 s]) (by repeat (first | exact HE.out | apply Env.alloc | apply Env.drewN | apply Env.drew)) ?_; intro Wc hE; refine (g1.out _ hE.below).mono ?_; rintro e w1 ⟨⟨u, pv, rfl⟩, hb⟩))
  exact dies_end rfl hE.below hb
theorem made_7_dies3 (A : Option Addr) (c : Nat) (l : List S27) (y m d h i s : Int) (w : World) (hr : Kd.C k27 w A l.length l) (hl : 0 < l.length) (h3 : (rd_T27 l 0).f0 = 3) :
    Calls Try.prog 41 #[.agg #[.int .i64 7, .slice A l.length c, .int .i64 y, .int .i64 m, .int .i64 d, .int .i64 h, .int .i64 i, .int .i64 s]] w (Dies w) := by
  generalize hop : (7 : Int) = op
  have hM : ∀ W, Below w.heap.size w W → Calls Try.prog 65 #[.agg #[.int .i64 op, .slice A l.length c, .int .i64 y, .int .i64 m, .int .i64 d, .int .i64 h, .int .i64 i, .int .i64 s]] W (Dies W) := fun W2 hB2 =>
    next_no0 op A l.length c y m d h i s W2 (fun W hB3 => by
      have hB := below_then hB2 hB2.size hB3
      exact word_no op A c l y m d h i s 0 W (Kd.C_below hr hB) (by omega) (by omega) (by rw [h3]; decide))
  subst hop
  exact made_7_no A l.length c y m d h i s w hM


/-! ### act_maker_whole: function 66 -/
set_option maxHeartbeats 2000000 in
set_option maxRecDepth 100000 in
theorem whole_no0 (op : Int) (A : Option Addr) (n c : Nat) (y m d h i s : Int) (w : World)
    (h1 : ∀ W, Below w.heap.size w W → Calls Try.prog 91 #[.agg #[.int .i64 op, .slice A n c, .int .i64 y, .int .i64 m, .int .i64 d, .int .i64 h, .int .i64 i, .int .i64 s], .int .i64 0] W (Dies W)) :
    Calls Try.prog 66 #[.agg #[.int .i64 op, .slice A n c, .int .i64 y, .int .i64 m, .int .i64 d, .int .i64 h, .int .i64 i, .int .i64 s]] w (Dies w) := by
  have g1 := Aside0.mk h1
  clear h1
  have HE := Aside0.mk (Env.start w #[.int .i64 op, .slice A n c, .int .i64 y, .int .i64 m, .int .i64 d, .int .i64 h, .int .i64 i, .int .i64 s])
  go_enter Try.func66, Try.ntmps66
  go_wp2_with (first | (go_at_call 91; (with_reducible refine calls_any (Env w #[.int .i64 op, .slice A n c, .int .i64 y, .int .i64 m, .int .i64 d, .int .i64 h, .int .i64 i, .int .i64 s]) (by repeat (first | exact HE.out | apply Env.alloc | apply Env.drewN | apply Env.drew)) ?_); intro W6 hE; refine (g1.out _ hE.below).mono ?_; rintro e w6 ⟨⟨u, pv, rfl⟩, hb⟩; have HB6 := Aside0.mk hE; have HB7 := Aside0.mk hb; clear hE hb))
  exact dies_end rfl HB6.out.below HB7.out
set_option maxHeartbeats 2000000 in
set_option maxRecDepth 100000 in
theorem made_8_no (A : Option Addr) (n c : Nat) (y m d h i s : Int) (w : World)
    (hm : ∀ W, Below w.heap.size w W → Calls Try.prog 66 #[.agg #[.int .i64 8, .slice A n c, .int .i64 y, .int .i64 m, .int .i64 d, .int .i64 h, .int .i64 i, .int .i64 s]] W (Dies W)) :
    Calls Try.prog 41 #[.agg #[.int .i64 8, .slice A n c, .int .i64 y, .int .i64 m, .int .i64 d, .int .i64 h, .int .i64 i, .int .i64 s]] w (Dies w) := by
  have g1 := Aside0.mk hm
  clear hm
  have HE := Aside0.mk (Env.start w #[.int .i64 8, .slice A n c, .int .i64 y, .int .i64 m, .int .i64 d, .int .i64 h, .int .i64 i, .int .i64 s])
  have hmf : ∀ (fn : Fn) (first cap : Array Value) (w : World), (Instr.makeFunc fn first cap).run Try.prog w = .ok (.func fn first cap) w := fun _ _ _ _ => rfl
  go_enter Try.func41, Try.ntmps41
  go_wp2_with (first | (go_at_call 39; refine (act_must.calls _ _ _ rfl).mono ?_; rintro e w' ⟨rfl, ⟨nd, rfl⟩⟩) | (go_at_call 66; refine calls_any (Env w #[.int .i64 8, .slice A n c, .int .i64 y, .int .i64 m, .int .i64 d, .int .i64 h, .int .i64 i, .int .i64 s]) (by repeat (first | exact HE.out | apply Env.alloc | apply Env.drewN | apply Env.drew)) ?_; intro Wc hE; refine (g1.out _ hE.below).mono ?_; rintro e w1 ⟨⟨u, pv, rfl⟩, hb⟩))
  exact dies_end rfl hE.below hb
theorem made_8_dies3 (A : Option Addr) (c : Nat) (l : List S27) (y m d h i s : Int) (w : World) (hr : Kd.C k27 w A l.length l) (hl : 0 < l.length) (h3 : (rd_T27 l 0).f0 = 3) :
    Calls Try.prog 41 #[.agg #[.int .i64 8, .slice A l.length c, .int .i64 y, .int .i64 m, .int .i64 d, .int .i64 h, .int .i64 i, .int .i64 s]] w (Dies w) := by
  generalize hop : (8 : Int) = op
  have hM : ∀ W, Below w.heap.size w W → Calls Try.prog 66 #[.agg #[.int .i64 op, .slice A l.length c, .int .i64 y, .int .i64 m, .int .i64 d, .int .i64 h, .int .i64 i, .int .i64 s]] W (Dies W) := fun W2 hB2 =>
    whole_no0 op A l.length c y m d h i s W2 (fun W hB3 => by
      have hB := below_then hB2 hB2.size hB3
      exact number_no op A c l y m d h i s 0 W (Kd.C_below hr hB) (by omega) (by omega) (by rw [h3]; decide))
  subst hop
  exact made_8_no A l.length c y m d h i s w hM


/-! ### act_maker_point: function 67 -/
set_option maxHeartbeats 2000000 in
set_option maxRecDepth 100000 in
theorem point_no0 (op : Int) (A : Option Addr) (n c : Nat) (y m d h i s : Int) (w : World)
    (h1 : ∀ W, Below w.heap.size w W → Calls Try.prog 91 #[.agg #[.int .i64 op, .slice A n c, .int .i64 y, .int .i64 m, .int .i64 d, .int .i64 h, .int .i64 i, .int .i64 s], .int .i64 0] W (Dies W)) :
    Calls Try.prog 67 #[.agg #[.int .i64 op, .slice A n c, .int .i64 y, .int .i64 m, .int .i64 d, .int .i64 h, .int .i64 i, .int .i64 s]] w (Dies w) := by
  have g1 := Aside0.mk h1
  clear h1
  have HE := Aside0.mk (Env.start w #[.int .i64 op, .slice A n c, .int .i64 y, .int .i64 m, .int .i64 d, .int .i64 h, .int .i64 i, .int .i64 s])
  go_enter Try.func67, Try.ntmps67
  go_wp2_with fail
  go_region_held2 (fun w' => w'.cell? ⟨w.heap.size, 0, none⟩ = some (.int .i64 op) ∧ w'.cell? ⟨w.heap.size, 1, none⟩ = some (.slice A n c) ∧ w'.cell? ⟨w.heap.size, 2, none⟩ = some (.int .i64 y) ∧ w'.cell? ⟨w.heap.size, 3, none⟩ = some (.int .i64 m) ∧ w'.cell? ⟨w.heap.size, 4, none⟩ = some (.int .i64 d) ∧ w'.cell? ⟨w.heap.size, 5, none⟩ = some (.int .i64 h) ∧ w'.cell? ⟨w.heap.size, 6, none⟩ = some (.int .i64 i) ∧ w'.cell? ⟨w.heap.size, 7, none⟩ = some (.int .i64 s)) ((first | exact hF.out.elim | (go_keep; done) | exact Env.k8 (by repeat (first | exact HE.out | apply Env.alloc | apply Env.drewN | apply Env.drew)))) (first | (go_at_call 91; (with_reducible refine die_or (.int .i64 0) (g1.out _ ?_) ?_ ?_); (· exact Env.below (kc := #[.int .i64 op, .slice A n c, .int .i64 y, .int .i64 m, .int .i64 d, .int .i64 h, .int .i64 i, .int .i64 s]) (by repeat (first | exact HE.out | apply Env.alloc | apply Env.drewN | apply Env.drew))); (· rintro e w9 ⟨⟨u, pv, rfl⟩, hb⟩; exact dies_end rfl (Env.below (kc := #[.int .i64 op, .slice A n c, .int .i64 y, .int .i64 m, .int .i64 d, .int .i64 h, .int .i64 i, .int .i64 s]) (by repeat (first | exact HE.out | apply Env.alloc | apply Env.drewN | apply Env.drew))) hb); rintro e w9 ⟨rfl, hF⟩; have z0 : w9.cell? ⟨w.heap.size + 1, 0, none⟩ = some (.int .i64 0) := hF.out.elim; have z1 : w9.cell? ⟨w.heap.size + 1, 1, none⟩ = some (.slice none 0 0) := hF.out.elim; have z2 : w9.frozen? ⟨w.heap.size + 1, 0, none⟩ = false := hF.out.elim; have z3 : w9.frozen? ⟨w.heap.size + 1, 1, none⟩ = false := hF.out.elim) | (go_at_call 91; refine die_or (D := fun _ _ => False) (.int .i64 0) hF.out.elim (fun _ _ h => h.elim) ?_; rintro e w8 ⟨rfl, hF2⟩; have z0 : w8.cell? ⟨w.heap.size + 1, 0, none⟩ = some (.int .i64 0) := hF.out.elim; have z1 : w8.cell? ⟨w.heap.size + 1, 1, none⟩ = some (.slice none 0 0) := hF.out.elim; have z2 : w8.frozen? ⟨w.heap.size + 1, 0, none⟩ = false := hF.out.elim; have z3 : w8.frozen? ⟨w.heap.size + 1, 1, none⟩ = false := hF.out.elim) | (go_at_call 95; refine die_or (D := fun _ _ => False) (.slice (some ⟨w.heap.size, 2, none⟩) 2 2) hF.out.elim (fun _ _ h => h.elim) ?_; rintro e w8 ⟨rfl, hF2⟩; have z0 : w8.cell? ⟨w.heap.size + 1, 0, none⟩ = some (.int .i64 0) := hF.out.elim; have z1 : w8.cell? ⟨w.heap.size + 1, 1, none⟩ = some (.slice none 0 0) := hF.out.elim; have z2 : w8.frozen? ⟨w.heap.size + 1, 0, none⟩ = false := hF.out.elim; have z3 : w8.frozen? ⟨w.heap.size + 1, 1, none⟩ = false := hF.out.elim) | (go_at_call 99; refine die_or (D := fun _ _ => False) (.tuple #[.int .i64 0, .int .i64 0, .bool false]) hF.out.elim (fun _ _ h => h.elim) ?_; rintro e w8 ⟨rfl, hF2⟩; have z0 : w8.cell? ⟨w.heap.size + 1, 0, none⟩ = some (.int .i64 0) := hF.out.elim; have z1 : w8.cell? ⟨w.heap.size + 1, 1, none⟩ = some (.slice none 0 0) := hF.out.elim; have z2 : w8.frozen? ⟨w.heap.size + 1, 0, none⟩ = false := hF.out.elim; have z3 : w8.frozen? ⟨w.heap.size + 1, 1, none⟩ = false := hF.out.elim))
  all_goals exact hF.out.elim
set_option maxHeartbeats 2000000 in
set_option maxRecDepth 100000 in
theorem made_9_no (A : Option Addr) (n c : Nat) (y m d h i s : Int) (w : World)
    (hm : ∀ W, Below w.heap.size w W → Calls Try.prog 67 #[.agg #[.int .i64 9, .slice A n c, .int .i64 y, .int .i64 m, .int .i64 d, .int .i64 h, .int .i64 i, .int .i64 s]] W (Dies W)) :
    Calls Try.prog 41 #[.agg #[.int .i64 9, .slice A n c, .int .i64 y, .int .i64 m, .int .i64 d, .int .i64 h, .int .i64 i, .int .i64 s]] w (Dies w) := by
  have g1 := Aside0.mk hm
  clear hm
  have HE := Aside0.mk (Env.start w #[.int .i64 9, .slice A n c, .int .i64 y, .int .i64 m, .int .i64 d, .int .i64 h, .int .i64 i, .int .i64 s])
  have hmf : ∀ (fn : Fn) (first cap : Array Value) (w : World), (Instr.makeFunc fn first cap).run Try.prog w = .ok (.func fn first cap) w := fun _ _ _ _ => rfl
  go_enter Try.func41, Try.ntmps41
  go_wp2_with (first | (go_at_call 39; refine (act_must.calls _ _ _ rfl).mono ?_; rintro e w' ⟨rfl, ⟨nd, rfl⟩⟩) | (go_at_call 67; refine calls_any (Env w #[.int .i64 9, .slice A n c, .int .i64 y, .int .i64 m, .int .i64 d, .int .i64 h, .int .i64 i, .int .i64 s]) (by repeat (first | exact HE.out | apply Env.alloc | apply Env.drewN | apply Env.drew)) ?_; intro Wc hE; refine (g1.out _ hE.below).mono ?_; rintro e w1 ⟨⟨u, pv, rfl⟩, hb⟩))
  exact dies_end rfl hE.below hb
theorem made_9_dies3 (A : Option Addr) (c : Nat) (l : List S27) (y m d h i s : Int) (w : World) (hr : Kd.C k27 w A l.length l) (hl : 0 < l.length) (h3 : (rd_T27 l 0).f0 = 3) :
    Calls Try.prog 41 #[.agg #[.int .i64 9, .slice A l.length c, .int .i64 y, .int .i64 m, .int .i64 d, .int .i64 h, .int .i64 i, .int .i64 s]] w (Dies w) := by
  generalize hop : (9 : Int) = op
  have hM : ∀ W, Below w.heap.size w W → Calls Try.prog 67 #[.agg #[.int .i64 op, .slice A l.length c, .int .i64 y, .int .i64 m, .int .i64 d, .int .i64 h, .int .i64 i, .int .i64 s]] W (Dies W) := fun W2 hB2 =>
    point_no0 op A l.length c y m d h i s W2 (fun W hB3 => by
      have hB := below_then hB2 hB2.size hB3
      exact number_no op A c l y m d h i s 0 W (Kd.C_below hr hB) (by omega) (by omega) (by rw [h3]; decide))
  subst hop
  exact made_9_no A l.length c y m d h i s w hM


/-! ### act_maker_group: function 68 -/
set_option maxHeartbeats 2000000 in
set_option maxRecDepth 100000 in
theorem group_no0 (op : Int) (A : Option Addr) (n c : Nat) (y m d h i s : Int) (w : World) (hn : 0 < n)
    (h1 : ∀ W, Below w.heap.size w W → Calls Try.prog 95 #[.agg #[.int .i64 op, .slice A n c, .int .i64 y, .int .i64 m, .int .i64 d, .int .i64 h, .int .i64 i, .int .i64 s], .int .i64 0, .int .i64 1] W (Dies W)) :
    Calls Try.prog 68 #[.agg #[.int .i64 op, .slice A n c, .int .i64 y, .int .i64 m, .int .i64 d, .int .i64 h, .int .i64 i, .int .i64 s]] w (Dies w) := by
  have g1 := Aside0.mk h1
  clear h1
  have hn' := decide_eq_true hn
  have HE := Aside0.mk (Env.start w #[.int .i64 op, .slice A n c, .int .i64 y, .int .i64 m, .int .i64 d, .int .i64 h, .int .i64 i, .int .i64 s])
  go_enter Try.func68, Try.ntmps68
  go_wp2_with fail
  go_loopg [10] 0 (fun kq v10 w' => v10 = .int .i64 0 ∧ Aside0 (Env w #[.int .i64 op, .slice A n c, .int .i64 y, .int .i64 m, .int .i64 d, .int .i64 h, .int .i64 i, .int .i64 s] w'))
  case atStart => exact ⟨rfl, HE⟩
  case round =>
    obtain ⟨rfl, HE⟩ := hrel
    obtain ⟨k0, k1, k2, k3, k4, k5, k6, k7⟩ := Env.k8 HE.out
    go_wp2_with (first | (go_at_call 95; (with_reducible refine calls_any (Env w #[.int .i64 op, .slice A n c, .int .i64 y, .int .i64 m, .int .i64 d, .int .i64 h, .int .i64 i, .int .i64 s]) (by repeat (first | exact HE.out | apply Env.alloc | apply Env.drewN | apply Env.drew)) ?_); intro W6 hE; refine (g1.out _ hE.below).mono ?_; rintro e w6 ⟨⟨u, pv, rfl⟩, hb⟩; have HB6 := Aside0.mk hE; have HB7 := Aside0.mk hb; clear hE hb))
    exact dies_end rfl HB6.out.below HB7.out
set_option maxHeartbeats 2000000 in
set_option maxRecDepth 100000 in
theorem made_10_no (A : Option Addr) (n c : Nat) (y m d h i s : Int) (w : World)
    (hm : ∀ W, Below w.heap.size w W → Calls Try.prog 68 #[.agg #[.int .i64 10, .slice A n c, .int .i64 y, .int .i64 m, .int .i64 d, .int .i64 h, .int .i64 i, .int .i64 s]] W (Dies W)) :
    Calls Try.prog 41 #[.agg #[.int .i64 10, .slice A n c, .int .i64 y, .int .i64 m, .int .i64 d, .int .i64 h, .int .i64 i, .int .i64 s]] w (Dies w) := by
  have g1 := Aside0.mk hm
  clear hm
  have HE := Aside0.mk (Env.start w #[.int .i64 10, .slice A n c, .int .i64 y, .int .i64 m, .int .i64 d, .int .i64 h, .int .i64 i, .int .i64 s])
  have hmf : ∀ (fn : Fn) (first cap : Array Value) (w : World), (Instr.makeFunc fn first cap).run Try.prog w = .ok (.func fn first cap) w := fun _ _ _ _ => rfl
  go_enter Try.func41, Try.ntmps41
  go_wp2_with (first | (go_at_call 39; refine (act_must.calls _ _ _ rfl).mono ?_; rintro e w' ⟨rfl, ⟨nd, rfl⟩⟩) | (go_at_call 68; refine calls_any (Env w #[.int .i64 10, .slice A n c, .int .i64 y, .int .i64 m, .int .i64 d, .int .i64 h, .int .i64 i, .int .i64 s]) (by repeat (first | exact HE.out | apply Env.alloc | apply Env.drewN | apply Env.drew)) ?_; intro Wc hE; refine (g1.out _ hE.below).mono ?_; rintro e w1 ⟨⟨u, pv, rfl⟩, hb⟩))
  exact dies_end rfl hE.below hb
theorem made_10_dies3 (A : Option Addr) (c : Nat) (l : List S27) (y m d h i s : Int) (w : World) (hr : Kd.C k27 w A l.length l) (hl : 0 < l.length) (h3 : (rd_T27 l 0).f0 = 3) :
    Calls Try.prog 41 #[.agg #[.int .i64 10, .slice A l.length c, .int .i64 y, .int .i64 m, .int .i64 d, .int .i64 h, .int .i64 i, .int .i64 s]] w (Dies w) := by
  generalize hop : (10 : Int) = op
  have hM : ∀ W, Below w.heap.size w W → Calls Try.prog 68 #[.agg #[.int .i64 op, .slice A l.length c, .int .i64 y, .int .i64 m, .int .i64 d, .int .i64 h, .int .i64 i, .int .i64 s]] W (Dies W) := fun W2 hB2 =>
    group_no0 op A l.length c y m d h i s W2 hl (fun W hB3 => by
      have hB := below_then hB2 hB2.size hB3
      exact of_no op A c l y m d h i s 0 1 W (Kd.C_below hr hB) (by omega) (by omega) (by rw [h3]; decide))
  subst hop
  exact made_10_no A l.length c y m d h i s w hM


end Go.Proofs.Ytldfljlklfhjkaa.PKi
