/- Each call of a function that is printed here answers what its plain Lean function answers; written by a program of this session (wip/myprint.py) over the kit's print. Conditions: that the plain function answers. -/
import Derived.Test.YtldfljlklfhjkaaPMvx0
import Derived.Test.YtldfljlklfhjkaaPMvx6
import Derived.Test.YtldfljlklfhjkaaPMvx7
import Derived.Test.YtldfljlklfhjkaaPMvx9
namespace Go.Proofs.Ytldfljlklfhjkaa.PMv
open Go.RowKit Go.Proofs.YtldfljlklfhjkaaW.PrintWords Go.Proofs.YtldfljlklfhjkaaW.PrintLast Go.Proofs.YtldfljlklfhjkaaW.PrintMore
attribute [local go_sem] max2_int min2_int max_two min_two max_three min_three max_four min_four   -- for this text's walks alone
set_option linter.unusedVariables false
set_option linter.unusedSimpArgs false

/-! ### act_maker_relative: function 64 -/
-- 
theorem wp_any {P : Program} {c : Code} {Q : Exit → Act → World → Prop} {a : Act} {W : World} (p : World → Prop) (hp : p W) (h : ∀ W', p W' → c.wp P Q a W') : c.wp P Q a W := h W hp
/-- How many months, how many days: of a unit's number. -/
def relMo (u N : Int) : Int := if u = 3 then N else if u = 4 then wrap64 (12 * N) else 0
def relDa (u N : Int) : Int := if u = 1 then N else if u = 2 then wrap64 (7 * N) else 0
set_option maxHeartbeats 2000000 in
set_option maxRecDepth 100000 in
theorem rel_ok (op : Int) (A : Option Addr) (n c : Nat) (y m d h i s : Int) (a u z p q r : Int) (w : World) (ha0 : -1000000 ≤ a) (ha1 : a ≤ 1000000) (hu : u = 1 ∨ u = 2 ∨ u = 3 ∨ u = 4) (hz : z = -1 ∨ z = 1)
    (h1 : ∀ W, Below w.heap.size w W → Calls Try.prog 92 #[.agg #[.int .i64 op, .slice A n c, .int .i64 y, .int .i64 m, .int .i64 d, .int .i64 h, .int .i64 i, .int .i64 s], .int .i64 0] W fun e w' => e = .returned (.int .i64 a) ∧ Below W.heap.size W w')
    (h2 : ∀ W, Below w.heap.size w W → Calls Try.prog 93 #[.agg #[.int .i64 op, .slice A n c, .int .i64 y, .int .i64 m, .int .i64 d, .int .i64 h, .int .i64 i, .int .i64 s], .int .i64 1] W fun e w' => e = .returned (.int .i64 u) ∧ Below W.heap.size W w')
    (h3 : ∀ W, Below w.heap.size w W → Calls Try.prog 93 #[.agg #[.int .i64 op, .slice A n c, .int .i64 y, .int .i64 m, .int .i64 d, .int .i64 h, .int .i64 i, .int .i64 s], .int .i64 2] W fun e w' => e = .returned (.int .i64 z) ∧ Below W.heap.size W w')
    (h4 : ∀ W, Calls Try.prog 96 #[.int .i64 y, .int .i64 m, .int .i64 d, .int .i64 (relMo u (wrap64 (a * z))), .int .i64 (relDa u (wrap64 (a * z)))] W fun e' w' => e' = .returned (.tuple #[.int .i64 p, .int .i64 q, .int .i64 r, .bool true]) ∧ Below W.heap.size W w') :
    Calls Try.prog 64 #[.agg #[.int .i64 op, .slice A n c, .int .i64 y, .int .i64 m, .int .i64 d, .int .i64 h, .int .i64 i, .int .i64 s]] w (Makes w 4 [p, q, r]) := by
  have g1 := Aside0.mk h1
  have d0 := decide_eq_true ha0
  have d1 := decide_eq_true ha1
  clear h1 ha0 ha1
  have HE := Aside0.mk (Env.start w #[.int .i64 op, .slice A n c, .int .i64 y, .int .i64 m, .int .i64 d, .int .i64 h, .int .i64 i, .int .i64 s])
  have g2 := Aside0.mk h2
  have g3 := Aside0.mk h3
  clear h2 h3
  have hw0 : IntKind.i64.wrap 0 = 0 := by decide
  have hw1 : IntKind.i64.wrap 1 = 1 := by decide
  have hw2 : IntKind.i64.wrap 2 = 2 := by decide
  have hw3 : IntKind.i64.wrap 3 = 3 := by decide
  have dd2 : decide (1 ≤ u) = true := decide_eq_true (by omega)
  have dd3 : decide (u ≤ 4) = true := decide_eq_true (by omega)
  go_enter Try.func64, Try.ntmps64
  go_wp2_with fail
  go_region_held3 (fun w' => w'.cell? ⟨w.heap.size, 0, none⟩ = some (.int .i64 op) ∧ w'.cell? ⟨w.heap.size, 1, none⟩ = some (.slice A n c) ∧ w'.cell? ⟨w.heap.size, 2, none⟩ = some (.int .i64 y) ∧ w'.cell? ⟨w.heap.size, 3, none⟩ = some (.int .i64 m) ∧ w'.cell? ⟨w.heap.size, 4, none⟩ = some (.int .i64 d) ∧ w'.cell? ⟨w.heap.size, 5, none⟩ = some (.int .i64 h) ∧ w'.cell? ⟨w.heap.size, 6, none⟩ = some (.int .i64 i) ∧ w'.cell? ⟨w.heap.size, 7, none⟩ = some (.int .i64 s)) ((first | go_keep | exact Env.k8 (by repeat (first | exact HE.out | apply Env.alloc | apply Env.drewN | apply Env.drew)))) (first | (go_at_call 92; (with_reducible refine (g1.out _ ?_).mono ?_); (· exact Env.below (kc := #[.int .i64 op, .slice A n c, .int .i64 y, .int .i64 m, .int .i64 d, .int .i64 h, .int .i64 i, .int .i64 s]) (by repeat (first | exact HE.out | apply Env.alloc | apply Env.drewN | apply Env.drew))); rintro e w1 ⟨rfl, hb⟩; have HEn := Aside0.mk (Env.then_ (by repeat (first | exact HE.out | apply Env.alloc | apply Env.drewN | apply Env.drew)) hb); clear HE; have HE := HEn; clear HEn; clear hb) | (go_at_call 93; (with_reducible refine (g2.out _ ?_).mono ?_); (· exact Env.below (kc := #[.int .i64 op, .slice A n c, .int .i64 y, .int .i64 m, .int .i64 d, .int .i64 h, .int .i64 i, .int .i64 s]) (by repeat (first | exact HE.out | apply Env.alloc | apply Env.drewN | apply Env.drew))); rintro e w2 ⟨rfl, hb⟩; have HEn := Aside0.mk (Env.then_ (by repeat (first | exact HE.out | apply Env.alloc | apply Env.drewN | apply Env.drew)) hb); clear HE; have HE := HEn; clear HEn; clear hb) | (go_at_call 93; (with_reducible refine (g3.out _ ?_).mono ?_); (· exact Env.below (kc := #[.int .i64 op, .slice A n c, .int .i64 y, .int .i64 m, .int .i64 d, .int .i64 h, .int .i64 i, .int .i64 s]) (by repeat (first | exact HE.out | apply Env.alloc | apply Env.drewN | apply Env.drew))); rintro e w3 ⟨rfl, hb⟩; have HEn := Aside0.mk (Env.then_ (by repeat (first | exact HE.out | apply Env.alloc | apply Env.drewN | apply Env.drew)) hb); clear HE; have HE := HEn; clear HEn; clear hb))
  go_upto_region 2 with (fail)
  go_cut [] (fun wc => Aside0 (Env w #[.int .i64 op, .slice A n c, .int .i64 y, .int .i64 m, .int .i64 d, .int .i64 h, .int .i64 i, .int .i64 s] wc))
  case first =>
    obtain ⟨k0, k1, k2, k3, k4, k5, k6, k7⟩ := Env.k8 HE.out
    have ez : (z == -1) = true ∨ ((z == -1) = false ∧ (z == 1) = true) := by rcases hz with rfl | rfl; (exact .inl rfl); exact .inr ⟨rfl, rfl⟩
    rcases ez with ez | ⟨ez, ez1⟩
    all_goals
      go_wp2_with (first | (go_at_call 39; (with_reducible refine calls_any (Env w #[.int .i64 op, .slice A n c, .int .i64 y, .int .i64 m, .int .i64 d, .int .i64 h, .int .i64 i, .int .i64 s]) (by repeat (first | exact HE.out | apply Env.alloc | apply Env.drewN | apply Env.drew)) ?_); intro Wm hE; refine (act_must.calls true _ _ rfl).mono ?_; rintro e w3 ⟨rfl, ⟨nd, rfl⟩⟩; have HEn := Aside0.mk (Env.drewN hE nd); clear HE hE; generalize Wm.drewN nd = wm at *; have HE := HEn; clear HEn; obtain ⟨k0, k1, k2, k3, k4, k5, k6, k7⟩ := Env.k8 HE.out))
      go_meet
      case rel => exact HE
  case rest =>
    clear HE d0 d1 dd2 dd3
    have HE := hcut
    clear hcut
    go_upto_region 3 with (fail)
    go_cut [3] (fun v3 wc => v3 = .int .i64 (wrap64 (a * z)) ∧ Aside0 (Env w #[.int .i64 op, .slice A n c, .int .i64 y, .int .i64 m, .int .i64 d, .int .i64 h, .int .i64 i, .int .i64 s] wc))
    case first =>
      go_wp2_with fail
      (try simp only [i64_w])
      go_meet
      case rel => exact ⟨rfl, HE⟩
    case rest =>
      obtain ⟨rfl, HE2⟩ := hcut
      clear HE
      generalize wrap64 (a * z) = N at *
      clear hz
      go_upto_region 4 with (fail)
      go_cut [6, 7] (fun v6 v7 wc => v6 = .int .i64 (relMo u N) ∧ v7 = .int .i64 (relDa u N) ∧ Aside0 (Env w #[.int .i64 op, .slice A n c, .int .i64 y, .int .i64 m, .int .i64 d, .int .i64 h, .int .i64 i, .int .i64 s] wc))
      case first =>
        rcases hu with rfl | rfl | rfl | rfl
        all_goals
          go_region_law fail
          all_goals
            go_wp2_with fail
            (try simp only [i64_w])
            go_meet
            case rel => exact ⟨rfl, rfl, ⟨by repeat (first | exact HE2.out | apply Env.alloc | apply Env.drewN | apply Env.drew)⟩⟩
      case rest =>
        obtain ⟨rfl, rfl, HE⟩ := hcut
        clear HE2 hu
        have g4 := Aside0.mk h4
        clear h4
        generalize relMo u N = mo at *
        generalize relDa u N = da at *
        obtain ⟨k0, k1, k2, k3, k4, k5, k6, k7⟩ := Env.k8 HE.out
        go_wp2_with (first | (go_at_call 96; (with_reducible refine calls_any (Env w #[.int .i64 op, .slice A n c, .int .i64 y, .int .i64 m, .int .i64 d, .int .i64 h, .int .i64 i, .int .i64 s]) (by repeat (first | exact HE.out | apply Env.alloc | apply Env.drewN | apply Env.drew)) ?_); intro W5 hE; (with_reducible refine (g4.out _).mono ?_); rintro e5 w5 ⟨rfl, hb⟩; have HEn := Aside0.mk (Env.then_ hE hb); clear HE hE hb k0 k1 k2 k3 k4 k5 k6 k7; have HE := HEn; clear HEn; obtain ⟨k0, k1, k2, k3, k4, k5, k6, k7⟩ := Env.k8 HE.out) | (go_at_call 39; (with_reducible refine calls_any (Env w #[.int .i64 op, .slice A n c, .int .i64 y, .int .i64 m, .int .i64 d, .int .i64 h, .int .i64 i, .int .i64 s]) (by repeat (first | exact HE.out | apply Env.alloc | apply Env.drewN | apply Env.drew)) ?_); intro Wm hE; refine (act_must.calls true _ _ rfl).mono ?_; rintro e w3 ⟨rfl, ⟨nd, rfl⟩⟩; have HEn := Aside0.mk (Env.drewN hE nd); clear HE hE; generalize Wm.drewN nd = wm at *; have HE := HEn; clear HEn; obtain ⟨k0, k1, k2, k3, k4, k5, k6, k7⟩ := Env.k8 HE.out) | (go_at_call 40; refine (value_ok 4 _ _ [p, q, r] _ (C_new _ [p, q, r] (by simp)) (Nat.le_refl _) (by simp)).mono ?_; rintro e w8 ⟨A3, c3, rfl, hc3, hR, hb3⟩; have HV := Aside0.mk HE.out; have HR := Aside0.mk hR; have HB3 := Aside0.mk hb3; have HEn := Aside0.mk ((HV.out.alloc _).then_ hb3); clear HE hR hb3; obtain ⟨z0, z1, z2, z3⟩ := Env.r2 HEn.out))
        refine bodyPost_ret (v := .agg #[.int .i64 4, .slice A3 _ c3]) (by simp [results, Try.results64, go_sem, z0, z1, z2, z3]) rfl (makes_end HV.out HB3.out hc3 HR.out _ _)
set_option maxHeartbeats 2000000 in
set_option maxRecDepth 100000 in
theorem rel_no (op : Int) (A : Option Addr) (n c : Nat) (y m d h i s : Int) (a u z p q r : Int) (w : World) (ha0 : -1000000 ≤ a) (ha1 : a ≤ 1000000) (hu : u = 1 ∨ u = 2 ∨ u = 3 ∨ u = 4) (hz : z = -1 ∨ z = 1)
    (h1 : ∀ W, Below w.heap.size w W → Calls Try.prog 92 #[.agg #[.int .i64 op, .slice A n c, .int .i64 y, .int .i64 m, .int .i64 d, .int .i64 h, .int .i64 i, .int .i64 s], .int .i64 0] W fun e w' => e = .returned (.int .i64 a) ∧ Below W.heap.size W w')
    (h2 : ∀ W, Below w.heap.size w W → Calls Try.prog 93 #[.agg #[.int .i64 op, .slice A n c, .int .i64 y, .int .i64 m, .int .i64 d, .int .i64 h, .int .i64 i, .int .i64 s], .int .i64 1] W fun e w' => e = .returned (.int .i64 u) ∧ Below W.heap.size W w')
    (h3 : ∀ W, Below w.heap.size w W → Calls Try.prog 93 #[.agg #[.int .i64 op, .slice A n c, .int .i64 y, .int .i64 m, .int .i64 d, .int .i64 h, .int .i64 i, .int .i64 s], .int .i64 2] W fun e w' => e = .returned (.int .i64 z) ∧ Below W.heap.size W w')
    (h4 : ∀ W, Calls Try.prog 96 #[.int .i64 y, .int .i64 m, .int .i64 d, .int .i64 (relMo u (wrap64 (a * z))), .int .i64 (relDa u (wrap64 (a * z)))] W fun e' w' => e' = .returned (.tuple #[.int .i64 p, .int .i64 q, .int .i64 r, .bool false]) ∧ Below W.heap.size W w') :
    Calls Try.prog 64 #[.agg #[.int .i64 op, .slice A n c, .int .i64 y, .int .i64 m, .int .i64 d, .int .i64 h, .int .i64 i, .int .i64 s]] w (Dies w) := by
  have g1 := Aside0.mk h1
  have d0 := decide_eq_true ha0
  have d1 := decide_eq_true ha1
  clear h1 ha0 ha1
  have HE := Aside0.mk (Env.start w #[.int .i64 op, .slice A n c, .int .i64 y, .int .i64 m, .int .i64 d, .int .i64 h, .int .i64 i, .int .i64 s])
  have g2 := Aside0.mk h2
  have g3 := Aside0.mk h3
  clear h2 h3
  have hw0 : IntKind.i64.wrap 0 = 0 := by decide
  have hw1 : IntKind.i64.wrap 1 = 1 := by decide
  have hw2 : IntKind.i64.wrap 2 = 2 := by decide
  have hw3 : IntKind.i64.wrap 3 = 3 := by decide
  have dd2 : decide (1 ≤ u) = true := decide_eq_true (by omega)
  have dd3 : decide (u ≤ 4) = true := decide_eq_true (by omega)
  go_enter Try.func64, Try.ntmps64
  go_wp2_with fail
  go_region_held3 (fun w' => w'.cell? ⟨w.heap.size, 0, none⟩ = some (.int .i64 op) ∧ w'.cell? ⟨w.heap.size, 1, none⟩ = some (.slice A n c) ∧ w'.cell? ⟨w.heap.size, 2, none⟩ = some (.int .i64 y) ∧ w'.cell? ⟨w.heap.size, 3, none⟩ = some (.int .i64 m) ∧ w'.cell? ⟨w.heap.size, 4, none⟩ = some (.int .i64 d) ∧ w'.cell? ⟨w.heap.size, 5, none⟩ = some (.int .i64 h) ∧ w'.cell? ⟨w.heap.size, 6, none⟩ = some (.int .i64 i) ∧ w'.cell? ⟨w.heap.size, 7, none⟩ = some (.int .i64 s)) ((first | go_keep | exact Env.k8 (by repeat (first | exact HE.out | apply Env.alloc | apply Env.drewN | apply Env.drew)))) (first | (go_at_call 92; (with_reducible refine (g1.out _ ?_).mono ?_); (· exact Env.below (kc := #[.int .i64 op, .slice A n c, .int .i64 y, .int .i64 m, .int .i64 d, .int .i64 h, .int .i64 i, .int .i64 s]) (by repeat (first | exact HE.out | apply Env.alloc | apply Env.drewN | apply Env.drew))); rintro e w1 ⟨rfl, hb⟩; have HEn := Aside0.mk (Env.then_ (by repeat (first | exact HE.out | apply Env.alloc | apply Env.drewN | apply Env.drew)) hb); clear HE; have HE := HEn; clear HEn; clear hb) | (go_at_call 93; (with_reducible refine (g2.out _ ?_).mono ?_); (· exact Env.below (kc := #[.int .i64 op, .slice A n c, .int .i64 y, .int .i64 m, .int .i64 d, .int .i64 h, .int .i64 i, .int .i64 s]) (by repeat (first | exact HE.out | apply Env.alloc | apply Env.drewN | apply Env.drew))); rintro e w2 ⟨rfl, hb⟩; have HEn := Aside0.mk (Env.then_ (by repeat (first | exact HE.out | apply Env.alloc | apply Env.drewN | apply Env.drew)) hb); clear HE; have HE := HEn; clear HEn; clear hb) | (go_at_call 93; (with_reducible refine (g3.out _ ?_).mono ?_); (· exact Env.below (kc := #[.int .i64 op, .slice A n c, .int .i64 y, .int .i64 m, .int .i64 d, .int .i64 h, .int .i64 i, .int .i64 s]) (by repeat (first | exact HE.out | apply Env.alloc | apply Env.drewN | apply Env.drew))); rintro e w3 ⟨rfl, hb⟩; have HEn := Aside0.mk (Env.then_ (by repeat (first | exact HE.out | apply Env.alloc | apply Env.drewN | apply Env.drew)) hb); clear HE; have HE := HEn; clear HEn; clear hb))
  go_upto_region 2 with (fail)
  go_cut [] (fun wc => Aside0 (Env w #[.int .i64 op, .slice A n c, .int .i64 y, .int .i64 m, .int .i64 d, .int .i64 h, .int .i64 i, .int .i64 s] wc))
  case first =>
    obtain ⟨k0, k1, k2, k3, k4, k5, k6, k7⟩ := Env.k8 HE.out
    have ez : (z == -1) = true ∨ ((z == -1) = false ∧ (z == 1) = true) := by rcases hz with rfl | rfl; (exact .inl rfl); exact .inr ⟨rfl, rfl⟩
    rcases ez with ez | ⟨ez, ez1⟩
    all_goals
      go_wp2_with (first | (go_at_call 39; (with_reducible refine calls_any (Env w #[.int .i64 op, .slice A n c, .int .i64 y, .int .i64 m, .int .i64 d, .int .i64 h, .int .i64 i, .int .i64 s]) (by repeat (first | exact HE.out | apply Env.alloc | apply Env.drewN | apply Env.drew)) ?_); intro Wm hE; refine (act_must.calls true _ _ rfl).mono ?_; rintro e w3 ⟨rfl, ⟨nd, rfl⟩⟩; have HEn := Aside0.mk (Env.drewN hE nd); clear HE hE; generalize Wm.drewN nd = wm at *; have HE := HEn; clear HEn; obtain ⟨k0, k1, k2, k3, k4, k5, k6, k7⟩ := Env.k8 HE.out))
      go_meet
      case rel => exact HE
  case rest =>
    clear HE d0 d1 dd2 dd3
    have HE := hcut
    clear hcut
    go_upto_region 3 with (fail)
    go_cut [3] (fun v3 wc => v3 = .int .i64 (wrap64 (a * z)) ∧ Aside0 (Env w #[.int .i64 op, .slice A n c, .int .i64 y, .int .i64 m, .int .i64 d, .int .i64 h, .int .i64 i, .int .i64 s] wc))
    case first =>
      go_wp2_with fail
      (try simp only [i64_w])
      go_meet
      case rel => exact ⟨rfl, HE⟩
    case rest =>
      obtain ⟨rfl, HE2⟩ := hcut
      clear HE
      generalize wrap64 (a * z) = N at *
      clear hz
      go_upto_region 4 with (fail)
      go_cut [6, 7] (fun v6 v7 wc => v6 = .int .i64 (relMo u N) ∧ v7 = .int .i64 (relDa u N) ∧ Aside0 (Env w #[.int .i64 op, .slice A n c, .int .i64 y, .int .i64 m, .int .i64 d, .int .i64 h, .int .i64 i, .int .i64 s] wc))
      case first =>
        rcases hu with rfl | rfl | rfl | rfl
        all_goals
          go_region_law fail
          all_goals
            go_wp2_with fail
            (try simp only [i64_w])
            go_meet
            case rel => exact ⟨rfl, rfl, ⟨by repeat (first | exact HE2.out | apply Env.alloc | apply Env.drewN | apply Env.drew)⟩⟩
      case rest =>
        obtain ⟨rfl, rfl, HE⟩ := hcut
        clear HE2 hu
        have g4 := Aside0.mk h4
        clear h4
        generalize relMo u N = mo at *
        generalize relDa u N = da at *
        obtain ⟨k0, k1, k2, k3, k4, k5, k6, k7⟩ := Env.k8 HE.out
        go_wp2_with (first | (go_at_call 96; (with_reducible refine calls_any (Env w #[.int .i64 op, .slice A n c, .int .i64 y, .int .i64 m, .int .i64 d, .int .i64 h, .int .i64 i, .int .i64 s]) (by repeat (first | exact HE.out | apply Env.alloc | apply Env.drewN | apply Env.drew)) ?_); intro W5 hE; (with_reducible refine (g4.out _).mono ?_); rintro e5 w5 ⟨rfl, hb⟩; have HEn := Aside0.mk (Env.then_ hE hb); clear HE hE hb k0 k1 k2 k3 k4 k5 k6 k7; have HE := HEn; clear HEn; obtain ⟨k0, k1, k2, k3, k4, k5, k6, k7⟩ := Env.k8 HE.out) | (go_at_call 39; (with_reducible refine calls_any (Env w #[.int .i64 op, .slice A n c, .int .i64 y, .int .i64 m, .int .i64 d, .int .i64 h, .int .i64 i, .int .i64 s]) (by repeat (first | exact HE.out | apply Env.alloc | apply Env.drewN | apply Env.drew)) ?_); intro W6 hE; refine (must_dies _ _).mono ?_; rintro e w6 ⟨⟨u, pv, rfl⟩, hb⟩; have HB6 := Aside0.mk hE; have HB7 := Aside0.mk hb; clear hE hb))
        exact dies_end rfl HB6.out.below HB7.out
def act_maker_relative.f (k : Nat) (a0_0 : Int) (l0_1 : List (S27)) (a0_2 a0_3 a0_4 a0_5 a0_6 a0_7 : Int) : Option (Option (Int × List Int)) :=
  (act_maker_count.f k a0_0 l0_1 a0_2 a0_3 a0_4 a0_5 a0_6 a0_7 0).bind fun a => (act_maker_word.f a0_0 l0_1 a0_2 a0_3 a0_4 a0_5 a0_6 a0_7 1).bind fun u => (act_maker_word.f a0_0 l0_1 a0_2 a0_3 a0_4 a0_5 a0_6 a0_7 2).bind fun z =>
    if -1000000 ≤ a ∧ a ≤ 1000000 ∧ (u = 1 ∨ u = 2 ∨ u = 3 ∨ u = 4) ∧ (z = -1 ∨ z = 1) then (civil_Add.f a0_2 a0_3 a0_4 (relMo u (wrap64 (a * z))) (relDa u (wrap64 (a * z)))).bind fun t => if t.2.2.2 = true then some (some (4, [t.1, t.2.1, t.2.2.1])) else some none
    else none
theorem act_maker_relative.mono : ∀ a0 a1 a2 a3 a4 a5 a6 a7 k, LeO (act_maker_relative.f k a0 a1 a2 a3 a4 a5 a6 a7) (act_maker_relative.f (k + 1) a0 a1 a2 a3 a4 a5 a6 a7) := by
  intro a0 a1 a2 a3 a4 a5 a6 a7 k
  unfold act_maker_relative.f
  exact LeO.bind (act_maker_count.mono _ _ _ _ _ _ _ _ _ _) (fun _ => LeO.refl _)
theorem act_maker_relative.calls (k : Nat) (a0_0 : Int) (A0_1 : Option Addr) (c0_1 : Nat) (l0_1 : List (S27)) (a0_2 a0_3 a0_4 a0_5 a0_6 a0_7 : Int) (r1 : Int) (r2 : List Int) (w : World) (hr0_1 : Kd.C k27 w A0_1 l0_1.length l0_1) (hc0_1 : l0_1.length ≤ c0_1) (h : act_maker_relative.f k a0_0 l0_1 a0_2 a0_3 a0_4 a0_5 a0_6 a0_7 = some (some (r1, r2))) :
    Calls Try.prog 64 #[.agg #[.int .i64 a0_0, .slice A0_1 l0_1.length c0_1, .int .i64 a0_2, .int .i64 a0_3, .int .i64 a0_4, .int .i64 a0_5, .int .i64 a0_6, .int .i64 a0_7]] w (Makes w r1 r2) := by
  unfold act_maker_relative.f at h
  obtain ⟨a, ha, h⟩ := Option.bind_eq_some_iff.mp h
  obtain ⟨u, hu, h⟩ := Option.bind_eq_some_iff.mp h
  obtain ⟨z, hz, h⟩ := Option.bind_eq_some_iff.mp h
  split at h
  case isFalse => cases h
  case isTrue hc =>
    obtain ⟨t, ht, h⟩ := Option.bind_eq_some_iff.mp h
    obtain ⟨t1, t2, t3, t4⟩ := t
    split at h
    case isFalse => cases h
    case isTrue hb =>
      obtain rfl : t4 = true := hb
      have h := Option.some.inj (Option.some.inj h)
      simp only [Prod.mk.injEq] at h
      obtain ⟨rfl, rfl⟩ := h
      exact rel_ok a0_0 A0_1 l0_1.length c0_1 a0_2 a0_3 a0_4 a0_5 a0_6 a0_7 a u z t1 t2 t3 w hc.1 hc.2.1 hc.2.2.1 hc.2.2.2 (fun W hB => act_maker_count.calls k a0_0 A0_1 c0_1 l0_1 a0_2 a0_3 a0_4 a0_5 a0_6 a0_7 0 a W (Kd.C_below hr0_1 hB) hc0_1 ha) (fun W hB => act_maker_word.calls a0_0 A0_1 c0_1 l0_1 a0_2 a0_3 a0_4 a0_5 a0_6 a0_7 1 u W (Kd.C_below hr0_1 hB) hc0_1 hu) (fun W hB => act_maker_word.calls a0_0 A0_1 c0_1 l0_1 a0_2 a0_3 a0_4 a0_5 a0_6 a0_7 2 z W (Kd.C_below hr0_1 hB) hc0_1 hz) (fun W => civil_Add.calls a0_2 a0_3 a0_4 _ _ t1 t2 t3 true W ht)
theorem act_maker_relative.dies (k : Nat) (a0_0 : Int) (A0_1 : Option Addr) (c0_1 : Nat) (l0_1 : List (S27)) (a0_2 a0_3 a0_4 a0_5 a0_6 a0_7 : Int) (w : World) (hr0_1 : Kd.C k27 w A0_1 l0_1.length l0_1) (hc0_1 : l0_1.length ≤ c0_1) (h : act_maker_relative.f k a0_0 l0_1 a0_2 a0_3 a0_4 a0_5 a0_6 a0_7 = some (none)) :
    Calls Try.prog 64 #[.agg #[.int .i64 a0_0, .slice A0_1 l0_1.length c0_1, .int .i64 a0_2, .int .i64 a0_3, .int .i64 a0_4, .int .i64 a0_5, .int .i64 a0_6, .int .i64 a0_7]] w (Dies w) := by
  unfold act_maker_relative.f at h
  obtain ⟨a, ha, h⟩ := Option.bind_eq_some_iff.mp h
  obtain ⟨u, hu, h⟩ := Option.bind_eq_some_iff.mp h
  obtain ⟨z, hz, h⟩ := Option.bind_eq_some_iff.mp h
  split at h
  case isFalse => cases h
  case isTrue hc =>
    obtain ⟨t, ht, h⟩ := Option.bind_eq_some_iff.mp h
    obtain ⟨t1, t2, t3, t4⟩ := t
    split at h
    case isTrue => cases h
    case isFalse hb =>
      obtain rfl : t4 = false := Bool.eq_false_iff.mpr hb
      exact rel_no a0_0 A0_1 l0_1.length c0_1 a0_2 a0_3 a0_4 a0_5 a0_6 a0_7 a u z t1 t2 t3 w hc.1 hc.2.1 hc.2.2.1 hc.2.2.2 (fun W hB => act_maker_count.calls k a0_0 A0_1 c0_1 l0_1 a0_2 a0_3 a0_4 a0_5 a0_6 a0_7 0 a W (Kd.C_below hr0_1 hB) hc0_1 ha) (fun W hB => act_maker_word.calls a0_0 A0_1 c0_1 l0_1 a0_2 a0_3 a0_4 a0_5 a0_6 a0_7 1 u W (Kd.C_below hr0_1 hB) hc0_1 hu) (fun W hB => act_maker_word.calls a0_0 A0_1 c0_1 l0_1 a0_2 a0_3 a0_4 a0_5 a0_6 a0_7 2 z W (Kd.C_below hr0_1 hB) hc0_1 hz) (fun W => civil_Add.calls a0_2 a0_3 a0_4 _ _ t1 t2 t3 false W ht)


end Go.Proofs.Ytldfljlklfhjkaa.PMv
