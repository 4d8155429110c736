/- Each call of a function that is printed here answers what its plain Lean function answers; written by a program of this session (wip/myprint.py) over the kit's print. Conditions: that the plain function answers. -/
import Derived.Test.YtldfljlklfhjkaaPEx0
import Derived.Test.YtldfljlklfhjkaaPEx3
import Derived.Test.YtldfljlklfhjkaaPEx4
import Derived.Test.YtldfljlklfhjkaaPEx6
import Derived.Test.YtldfljlklfhjkaaPEx7
namespace Go.Proofs.Ytldfljlklfhjkaa.PE
open Go.RowKit Go.Proofs.YtldfljlklfhjkaaW.PrintWords Go.Proofs.YtldfljlklfhjkaaW.PrintLast Go.Proofs.YtldfljlklfhjkaaW.PrintMore
attribute [local go_sem] max2_int min2_int max_two min_two max_three min_three max_four min_four   -- for this text's walks alone
set_option linter.unusedVariables false
set_option linter.unusedSimpArgs false

/-! ### act_Do: function 22 -/
-- 
/-- What made holds behind the method's call: the maker's variable and the result's, and the value that was made, of its own. -/
structure MEnv (w : World) (kc : Array Value) (Wc : World) (A1 : Option Addr) (c1 : Nat) (f : List Int) (W : World) : Prop where
  e : Env w kc W
  b : Below Wc.heap.size Wc W
  c : f.length ≤ c1
  r : Kd.R (Kd.int .i64) 3 W Wc.heap.size (fun _ => True) (.slice A1 f.length c1) f
theorem MEnv.then_ {w : World} {kc : Array Value} {Wc : World} {A1 : Option Addr} {c1 : Nat} {f : List Int} {W W1 : World} (h : MEnv w kc Wc A1 c1 f W) (hb : Below W.heap.size W W1) : MEnv w kc Wc A1 c1 f W1 :=
  ⟨h.e.then_ hb, below_step h.b hb, h.c, Kd.R_below h.r hb⟩
theorem MEnv.alloc {w : World} {kc : Array Value} {Wc : World} {A1 : Option Addr} {c1 : Nat} {f : List Int} {W : World} (h : MEnv w kc Wc A1 c1 f W) (o : Obj) : MEnv w kc Wc A1 c1 f (W.alloc o) := h.then_ (below_alloc (Below.refl _ _) o)
theorem MEnv.drewN {w : World} {kc : Array Value} {Wc : World} {A1 : Option Addr} {c1 : Nat} {f : List Int} {W : World} (h : MEnv w kc Wc A1 c1 f W) (n : Nat) : MEnv w kc Wc A1 c1 f (W.drewN n) := h.then_ (pw_below_drewN (Below.refl _ _) n)
theorem MEnv.drew {w : World} {kc : Array Value} {Wc : World} {A1 : Option Addr} {c1 : Nat} {f : List Int} {W : World} (h : MEnv w kc Wc A1 c1 f W) : MEnv w kc Wc A1 c1 f W.drew := h.then_ (below_drew (Below.refl _ _))
theorem MEnv.reads {w : World} {kc : Array Value} {Wc : World} {A1 : Option Addr} {c1 : Nat} {f : List Int} {W : World} (h : MEnv w kc Wc A1 c1 f W) : Kd.C (Kd.int .i64) W A1 f.length f := (Kd.R_reads' h.r).2.2
theorem MEnv.ends {w : World} {kc : Array Value} {Wc : World} {A1 : Option Addr} {c1 : Nat} {f : List Int} {W : World} {k : Int} (h : MEnv w kc Wc A1 c1 f W) (hE : Env w kc Wc) (u v : Value) :
    Makes w k f (.returned (.agg #[.int .i64 k, .slice A1 f.length c1])) ((W.setCell ⟨w.heap.size + 1, 0, none⟩ u).setCell ⟨w.heap.size + 1, 1, none⟩ v) := makes_end0 hE h.b h.c h.r u v
/-- And the variable in which it lies. -/
structure MV (w : World) (kc : Array Value) (Wc : World) (A1 : Option Addr) (c1 : Nat) (f : List Int) (k : Int) (gv : Nat) (W : World) : Prop where
  m : MEnv w kc Wc A1 c1 f W
  v : W.heap[gv]? = some (.cells #[.int .i64 k, .slice A1 f.length c1] 27 (0, 0))
theorem MV.start {w : World} {kc : Array Value} {Wc : World} {A1 : Option Addr} {c1 : Nat} {f : List Int} {k : Int} {W : World} (h : MEnv w kc Wc A1 c1 f W) : MV w kc Wc A1 c1 f k W.heap.size (W.alloc (.cells #[.int .i64 k, .slice A1 f.length c1] 27)) := ⟨h.alloc _, heap_alloc_new W _⟩
theorem MV.then_ {w : World} {kc : Array Value} {Wc : World} {A1 : Option Addr} {c1 : Nat} {f : List Int} {k : Int} {gv : Nat} {W W1 : World} (h : MV w kc Wc A1 c1 f k gv W) (hb : Below W.heap.size W W1) : MV w kc Wc A1 c1 f k gv W1 := ⟨h.m.then_ hb, blk_below h.v hb⟩
theorem MV.drew {w : World} {kc : Array Value} {Wc : World} {A1 : Option Addr} {c1 : Nat} {f : List Int} {k : Int} {gv : Nat} {W : World} (h : MV w kc Wc A1 c1 f k gv W) : MV w kc Wc A1 c1 f k gv W.drew := h.then_ (below_drew (Below.refl _ _))
theorem MV.drewN {w : World} {kc : Array Value} {Wc : World} {A1 : Option Addr} {c1 : Nat} {f : List Int} {k : Int} {gv : Nat} {W : World} (h : MV w kc Wc A1 c1 f k gv W) (n : Nat) : MV w kc Wc A1 c1 f k gv (W.drewN n) := h.then_ (pw_below_drewN (Below.refl _ _) n)
theorem MV.k3 {w : World} {c0 c1' c2 c3 c4 c5 c6 c7 : Value} {Wc : World} {A1 : Option Addr} {c1 : Nat} {f : List Int} {k : Int} {gv : Nat} {W : World} (h : MV w #[c0, c1', c2, c3, c4, c5, c6, c7] Wc A1 c1 f k gv W) :
    W.cell? ⟨w.heap.size, 0, none⟩ = some c0 ∧ W.cell? ⟨gv, 0, none⟩ = some (.int .i64 k) ∧ W.cell? ⟨gv, 1, none⟩ = some (.slice A1 f.length c1) := ⟨(blk_cell h.m.e.kb 0).trans rfl, (blk_cell h.v 0).trans rfl, (blk_cell h.v 1).trans rfl⟩
set_option maxHeartbeats 2000000 in
set_option maxRecDepth 100000 in
theorem made_1_ok (A : Option Addr) (n c : Nat) (y m d h i s : Int) (k : Int) (f : List Int) (w : World)
    (hm : ∀ W, Below w.heap.size w W → Calls Try.prog 59 #[.agg #[.int .i64 1, .slice A n c, .int .i64 y, .int .i64 m, .int .i64 d, .int .i64 h, .int .i64 i, .int .i64 s]] W (Makes W k f))
    (hr : ∀ W A1 c1, Kd.C (Kd.int .i64) W A1 f.length f → f.length ≤ c1 → Calls Try.prog 25 #[.agg #[.int .i64 k, .slice A1 f.length c1]] W fun e w' => e = .returned (.bool true) ∧ Below W.heap.size W w') :
    Calls Try.prog 41 #[.agg #[.int .i64 1, .slice A n c, .int .i64 y, .int .i64 m, .int .i64 d, .int .i64 h, .int .i64 i, .int .i64 s]] w (Makes w k f) := by
  have g1 := Aside0.mk hm
  have g2 := Aside0.mk hr
  clear hm hr
  have HE := Aside0.mk (Env.start w #[.int .i64 1, .slice A n c, .int .i64 y, .int .i64 m, .int .i64 d, .int .i64 h, .int .i64 i, .int .i64 s])
  have hmf : ∀ (fn : Fn) (first cap : Array Value) (w : World), (Instr.makeFunc fn first cap).run Try.prog w = .ok (.func fn first cap) w := fun _ _ _ _ => rfl
  go_enter Try.func41, Try.ntmps41
  go_wp2_with (first | (go_at_call 39; refine (act_must.calls _ _ _ rfl).mono ?_; rintro e w' ⟨rfl, ⟨nd, rfl⟩⟩) | (go_at_call 59; refine calls_any (Env w #[.int .i64 1, .slice A n c, .int .i64 y, .int .i64 m, .int .i64 d, .int .i64 h, .int .i64 i, .int .i64 s]) (by repeat (first | exact HE.out | apply Env.alloc | apply Env.drewN | apply Env.drew)) ?_; intro Wc hE; refine (g1.out _ hE.below).mono ?_; rintro e w1 ⟨A1, c1, rfl, hc1, hR, hb⟩; have HM := Aside0.mk (MEnv.mk (hE.then_ hb) hb hc1 hR); have HW := Aside0.mk hE; clear HE hE hc1 hR hb))
  have HV := Aside0.mk (MV.start (k := k) HM.out)
  clear HM
  have ht := MV.k3 (MV.drew HV.out)
  go_region_held3 (fun w' => w'.cell? ⟨w.heap.size, 0, none⟩ = some (.int .i64 1) ∧ w'.cell? ⟨w1.heap.size, 0, none⟩ = some (.int .i64 k) ∧ w'.cell? ⟨w1.heap.size, 1, none⟩ = some (.slice A1 f.length c1)) ((first | go_keep | exact MV.k3 (by repeat (first | exact HV.out | apply MV.drewN | apply MV.drew)))) (first | (go_at_call 25; refine calls_any (MV w #[.int .i64 1, .slice A n c, .int .i64 y, .int .i64 m, .int .i64 d, .int .i64 h, .int .i64 i, .int .i64 s] Wc A1 c1 f k w1.heap.size) (by repeat (first | exact HV.out | apply MV.drewN | apply MV.drew)) ?_; intro W2 hV; refine (g2.out W2 A1 c1 hV.m.reads hV.m.c).mono ?_; rintro e w2 ⟨rfl, hb⟩; have HVn := Aside0.mk (hV.then_ hb); clear HV hV hb; have HV := HVn; clear HVn) | (go_at_call 39; refine (act_must.calls true _ _ rfl).mono ?_; rintro e w3 ⟨rfl, ⟨nm, rfl⟩⟩))
  obtain ⟨r0, r1, r2, r3⟩ := Env.r2 (MV.drewN HV.out nm).m.e
  obtain ⟨s0, s1, s2⟩ := MV.k3 (MV.drewN HV.out nm)
  go_wp2_with fail
  refine bodyPost_ret (v := .agg #[.int .i64 k, .slice A1 f.length c1]) (by simp [results, Try.results41, go_sem, r0, r1, r2, r3]) rfl (MEnv.ends (MV.drewN HV.out nm).m HW.out _ _)
set_option maxHeartbeats 2000000 in
set_option maxRecDepth 100000 in
theorem made_1_wrong (A : Option Addr) (n c : Nat) (y m d h i s : Int) (k : Int) (f : List Int) (w : World)
    (hm : ∀ W, Below w.heap.size w W → Calls Try.prog 59 #[.agg #[.int .i64 1, .slice A n c, .int .i64 y, .int .i64 m, .int .i64 d, .int .i64 h, .int .i64 i, .int .i64 s]] W (Makes W k f))
    (hr : ∀ W A1 c1, Kd.C (Kd.int .i64) W A1 f.length f → f.length ≤ c1 → Calls Try.prog 25 #[.agg #[.int .i64 k, .slice A1 f.length c1]] W fun e w' => e = .returned (.bool false) ∧ Below W.heap.size W w') :
    Calls Try.prog 41 #[.agg #[.int .i64 1, .slice A n c, .int .i64 y, .int .i64 m, .int .i64 d, .int .i64 h, .int .i64 i, .int .i64 s]] w (Dies w) := by
  have g1 := Aside0.mk hm
  have g2 := Aside0.mk hr
  clear hm hr
  have HE := Aside0.mk (Env.start w #[.int .i64 1, .slice A n c, .int .i64 y, .int .i64 m, .int .i64 d, .int .i64 h, .int .i64 i, .int .i64 s])
  have hmf : ∀ (fn : Fn) (first cap : Array Value) (w : World), (Instr.makeFunc fn first cap).run Try.prog w = .ok (.func fn first cap) w := fun _ _ _ _ => rfl
  go_enter Try.func41, Try.ntmps41
  go_wp2_with (first | (go_at_call 39; refine (act_must.calls _ _ _ rfl).mono ?_; rintro e w' ⟨rfl, ⟨nd, rfl⟩⟩) | (go_at_call 59; refine calls_any (Env w #[.int .i64 1, .slice A n c, .int .i64 y, .int .i64 m, .int .i64 d, .int .i64 h, .int .i64 i, .int .i64 s]) (by repeat (first | exact HE.out | apply Env.alloc | apply Env.drewN | apply Env.drew)) ?_; intro Wc hE; refine (g1.out _ hE.below).mono ?_; rintro e w1 ⟨A1, c1, rfl, hc1, hR, hb⟩; have HM := Aside0.mk (MEnv.mk (hE.then_ hb) hb hc1 hR); have HW := Aside0.mk hE; clear HE hE hc1 hR hb))
  have HV := Aside0.mk (MV.start (k := k) HM.out)
  clear HM
  have ht := MV.k3 (MV.drew HV.out)
  go_region_held2 (fun w' => w'.cell? ⟨w.heap.size, 0, none⟩ = some (.int .i64 1) ∧ w'.cell? ⟨w1.heap.size, 0, none⟩ = some (.int .i64 k) ∧ w'.cell? ⟨w1.heap.size, 1, none⟩ = some (.slice A1 f.length c1)) ((first | exact hF.out.elim | (go_keep; done) | exact MV.k3 (by repeat (first | exact HV.out | apply MV.drewN | apply MV.drew)))) (first | (go_at_call 25; refine calls_any (MV w #[.int .i64 1, .slice A n c, .int .i64 y, .int .i64 m, .int .i64 d, .int .i64 h, .int .i64 i, .int .i64 s] Wc A1 c1 f k w1.heap.size) (by repeat (first | exact HV.out | apply MV.drewN | apply MV.drew)) ?_; intro W2 hV; refine (g2.out W2 A1 c1 hV.m.reads hV.m.c).mono ?_; rintro e w2 ⟨rfl, hb⟩; have HVn := Aside0.mk (hV.then_ hb); clear HV hV hb; have HV := HVn; clear HVn) | (go_at_call 39; refine calls_any (MV w #[.int .i64 1, .slice A n c, .int .i64 y, .int .i64 m, .int .i64 d, .int .i64 h, .int .i64 i, .int .i64 s] Wc A1 c1 f k w1.heap.size) (by repeat (first | exact HV.out | apply MV.drewN | apply MV.drew)) ?_; intro W3 hV; refine die_or (.tuple #[]) (must_dies _ _) ?_ ?_; (rintro e w' ⟨⟨u, pv, rfl⟩, hb⟩; exact dies_end rfl hV.m.e.below hb); rintro e w' ⟨rfl, hF⟩))
  all_goals exact hF.out.elim
set_option maxHeartbeats 2000000 in
set_option maxRecDepth 100000 in
theorem made_12_ok (A : Option Addr) (n c : Nat) (y m d h i s : Int) (k : Int) (f : List Int) (w : World)
    (hm : ∀ W, Below w.heap.size w W → Calls Try.prog 70 #[.agg #[.int .i64 12, .slice A n c, .int .i64 y, .int .i64 m, .int .i64 d, .int .i64 h, .int .i64 i, .int .i64 s]] W (Makes W k f))
    (hr : ∀ W A1 c1, Kd.C (Kd.int .i64) W A1 f.length f → f.length ≤ c1 → Calls Try.prog 25 #[.agg #[.int .i64 k, .slice A1 f.length c1]] W fun e w' => e = .returned (.bool true) ∧ Below W.heap.size W w') :
    Calls Try.prog 41 #[.agg #[.int .i64 12, .slice A n c, .int .i64 y, .int .i64 m, .int .i64 d, .int .i64 h, .int .i64 i, .int .i64 s]] w (Makes w k f) := by
  have g1 := Aside0.mk hm
  have g2 := Aside0.mk hr
  clear hm hr
  have HE := Aside0.mk (Env.start w #[.int .i64 12, .slice A n c, .int .i64 y, .int .i64 m, .int .i64 d, .int .i64 h, .int .i64 i, .int .i64 s])
  have hmf : ∀ (fn : Fn) (first cap : Array Value) (w : World), (Instr.makeFunc fn first cap).run Try.prog w = .ok (.func fn first cap) w := fun _ _ _ _ => rfl
  go_enter Try.func41, Try.ntmps41
  go_wp2_with (first | (go_at_call 39; refine (act_must.calls _ _ _ rfl).mono ?_; rintro e w' ⟨rfl, ⟨nd, rfl⟩⟩) | (go_at_call 70; refine calls_any (Env w #[.int .i64 12, .slice A n c, .int .i64 y, .int .i64 m, .int .i64 d, .int .i64 h, .int .i64 i, .int .i64 s]) (by repeat (first | exact HE.out | apply Env.alloc | apply Env.drewN | apply Env.drew)) ?_; intro Wc hE; refine (g1.out _ hE.below).mono ?_; rintro e w1 ⟨A1, c1, rfl, hc1, hR, hb⟩; have HM := Aside0.mk (MEnv.mk (hE.then_ hb) hb hc1 hR); have HW := Aside0.mk hE; clear HE hE hc1 hR hb))
  have HV := Aside0.mk (MV.start (k := k) HM.out)
  clear HM
  have ht := MV.k3 (MV.drew HV.out)
  go_region_held3 (fun w' => w'.cell? ⟨w.heap.size, 0, none⟩ = some (.int .i64 12) ∧ w'.cell? ⟨w1.heap.size, 0, none⟩ = some (.int .i64 k) ∧ w'.cell? ⟨w1.heap.size, 1, none⟩ = some (.slice A1 f.length c1)) ((first | go_keep | exact MV.k3 (by repeat (first | exact HV.out | apply MV.drewN | apply MV.drew)))) (first | (go_at_call 25; refine calls_any (MV w #[.int .i64 12, .slice A n c, .int .i64 y, .int .i64 m, .int .i64 d, .int .i64 h, .int .i64 i, .int .i64 s] Wc A1 c1 f k w1.heap.size) (by repeat (first | exact HV.out | apply MV.drewN | apply MV.drew)) ?_; intro W2 hV; refine (g2.out W2 A1 c1 hV.m.reads hV.m.c).mono ?_; rintro e w2 ⟨rfl, hb⟩; have HVn := Aside0.mk (hV.then_ hb); clear HV hV hb; have HV := HVn; clear HVn) | (go_at_call 39; refine (act_must.calls true _ _ rfl).mono ?_; rintro e w3 ⟨rfl, ⟨nm, rfl⟩⟩))
  obtain ⟨r0, r1, r2, r3⟩ := Env.r2 (MV.drewN HV.out nm).m.e
  obtain ⟨s0, s1, s2⟩ := MV.k3 (MV.drewN HV.out nm)
  go_wp2_with fail
  refine bodyPost_ret (v := .agg #[.int .i64 k, .slice A1 f.length c1]) (by simp [results, Try.results41, go_sem, r0, r1, r2, r3]) rfl (MEnv.ends (MV.drewN HV.out nm).m HW.out _ _)
set_option maxHeartbeats 2000000 in
set_option maxRecDepth 100000 in
theorem made_12_wrong (A : Option Addr) (n c : Nat) (y m d h i s : Int) (k : Int) (f : List Int) (w : World)
    (hm : ∀ W, Below w.heap.size w W → Calls Try.prog 70 #[.agg #[.int .i64 12, .slice A n c, .int .i64 y, .int .i64 m, .int .i64 d, .int .i64 h, .int .i64 i, .int .i64 s]] W (Makes W k f))
    (hr : ∀ W A1 c1, Kd.C (Kd.int .i64) W A1 f.length f → f.length ≤ c1 → Calls Try.prog 25 #[.agg #[.int .i64 k, .slice A1 f.length c1]] W fun e w' => e = .returned (.bool false) ∧ Below W.heap.size W w') :
    Calls Try.prog 41 #[.agg #[.int .i64 12, .slice A n c, .int .i64 y, .int .i64 m, .int .i64 d, .int .i64 h, .int .i64 i, .int .i64 s]] w (Dies w) := by
  have g1 := Aside0.mk hm
  have g2 := Aside0.mk hr
  clear hm hr
  have HE := Aside0.mk (Env.start w #[.int .i64 12, .slice A n c, .int .i64 y, .int .i64 m, .int .i64 d, .int .i64 h, .int .i64 i, .int .i64 s])
  have hmf : ∀ (fn : Fn) (first cap : Array Value) (w : World), (Instr.makeFunc fn first cap).run Try.prog w = .ok (.func fn first cap) w := fun _ _ _ _ => rfl
  go_enter Try.func41, Try.ntmps41
  go_wp2_with (first | (go_at_call 39; refine (act_must.calls _ _ _ rfl).mono ?_; rintro e w' ⟨rfl, ⟨nd, rfl⟩⟩) | (go_at_call 70; refine calls_any (Env w #[.int .i64 12, .slice A n c, .int .i64 y, .int .i64 m, .int .i64 d, .int .i64 h, .int .i64 i, .int .i64 s]) (by repeat (first | exact HE.out | apply Env.alloc | apply Env.drewN | apply Env.drew)) ?_; intro Wc hE; refine (g1.out _ hE.below).mono ?_; rintro e w1 ⟨A1, c1, rfl, hc1, hR, hb⟩; have HM := Aside0.mk (MEnv.mk (hE.then_ hb) hb hc1 hR); have HW := Aside0.mk hE; clear HE hE hc1 hR hb))
  have HV := Aside0.mk (MV.start (k := k) HM.out)
  clear HM
  have ht := MV.k3 (MV.drew HV.out)
  go_region_held2 (fun w' => w'.cell? ⟨w.heap.size, 0, none⟩ = some (.int .i64 12) ∧ w'.cell? ⟨w1.heap.size, 0, none⟩ = some (.int .i64 k) ∧ w'.cell? ⟨w1.heap.size, 1, none⟩ = some (.slice A1 f.length c1)) ((first | exact hF.out.elim | (go_keep; done) | exact MV.k3 (by repeat (first | exact HV.out | apply MV.drewN | apply MV.drew)))) (first | (go_at_call 25; refine calls_any (MV w #[.int .i64 12, .slice A n c, .int .i64 y, .int .i64 m, .int .i64 d, .int .i64 h, .int .i64 i, .int .i64 s] Wc A1 c1 f k w1.heap.size) (by repeat (first | exact HV.out | apply MV.drewN | apply MV.drew)) ?_; intro W2 hV; refine (g2.out W2 A1 c1 hV.m.reads hV.m.c).mono ?_; rintro e w2 ⟨rfl, hb⟩; have HVn := Aside0.mk (hV.then_ hb); clear HV hV hb; have HV := HVn; clear HVn) | (go_at_call 39; refine calls_any (MV w #[.int .i64 12, .slice A n c, .int .i64 y, .int .i64 m, .int .i64 d, .int .i64 h, .int .i64 i, .int .i64 s] Wc A1 c1 f k w1.heap.size) (by repeat (first | exact HV.out | apply MV.drewN | apply MV.drew)) ?_; intro W3 hV; refine die_or (.tuple #[]) (must_dies _ _) ?_ ?_; (rintro e w' ⟨⟨u, pv, rfl⟩, hb⟩; exact dies_end rfl hV.m.e.below hb); rintro e w' ⟨rfl, hF⟩))
  all_goals exact hF.out.elim
set_option maxHeartbeats 2000000 in
set_option maxRecDepth 100000 in
theorem made_12_no (A : Option Addr) (n c : Nat) (y m d h i s : Int) (w : World)
    (hm : ∀ W, Below w.heap.size w W → Calls Try.prog 70 #[.agg #[.int .i64 12, .slice A n c, .int .i64 y, .int .i64 m, .int .i64 d, .int .i64 h, .int .i64 i, .int .i64 s]] W (Dies W)) :
    Calls Try.prog 41 #[.agg #[.int .i64 12, .slice A n c, .int .i64 y, .int .i64 m, .int .i64 d, .int .i64 h, .int .i64 i, .int .i64 s]] w (Dies w) := by
  have g1 := Aside0.mk hm
  clear hm
  have HE := Aside0.mk (Env.start w #[.int .i64 12, .slice A n c, .int .i64 y, .int .i64 m, .int .i64 d, .int .i64 h, .int .i64 i, .int .i64 s])
  have hmf : ∀ (fn : Fn) (first cap : Array Value) (w : World), (Instr.makeFunc fn first cap).run Try.prog w = .ok (.func fn first cap) w := fun _ _ _ _ => rfl
  go_enter Try.func41, Try.ntmps41
  go_wp2_with (first | (go_at_call 39; refine (act_must.calls _ _ _ rfl).mono ?_; rintro e w' ⟨rfl, ⟨nd, rfl⟩⟩) | (go_at_call 70; refine calls_any (Env w #[.int .i64 12, .slice A n c, .int .i64 y, .int .i64 m, .int .i64 d, .int .i64 h, .int .i64 i, .int .i64 s]) (by repeat (first | exact HE.out | apply Env.alloc | apply Env.drewN | apply Env.drew)) ?_; intro Wc hE; refine (g1.out _ hE.below).mono ?_; rintro e w1 ⟨⟨u, pv, rfl⟩, hb⟩))
  exact dies_end rfl hE.below hb
theorem do1_idle (p q : Addr) (w : World) :
    CallsD Try.prog 38 #[.pointer (some p), .pointer (some q)] .returning w fun e u' w' => e = .returned (.tuple #[]) ∧ u' = .returning ∧ w' = w := by
  refine callsD_of_wpS Try.func38 rfl fun c₀ cs hu => ?_
  apply wpS_seq
  apply wpS_region
  simp [wpOpsS, go_sem, recoverD, hu, Try.ntmps38, Exit.thenS]
  apply wpS_seq
  apply wpS_region
  simp [wpOpsS, go_sem, Exit.thenS]
  refine wpS_cond (t := false) (by simp [Act.eval, Array.replicate]) ?_
  simp only [Bool.false_eq_true, if_false]
  refine wpS_of_wp (wp_skip ?_)
  cases c₀
  simp_all [bodyPostS, results, Try.results38]
theorem do1_panicking (g : Nat) (u : TypeId) (pv x0 x1 x2 : Value) (w : World) (hv : w.heap[g]? = some (.cells #[x0, x1] 27 (0, 0))) (hi : w.heap[g + 1]? = some (.cells #[x2] 4 (0, 0))) :
    CallsD Try.prog 38 #[.pointer (some ⟨g, 0, none⟩), .pointer (some ⟨g + 1, 0, none⟩)] (.panicking [{ v := .iface u pv, recovered := false }]) w fun e u' w' =>
      e = .returned (.tuple #[]) ∧ u' = .panicking [{ v := .iface u pv, recovered := true }] ∧ w' = ((w.setCell ⟨g, 0, none⟩ (.int .i64 0)).setCell ⟨g, 1, none⟩ (.slice none 0 0)).setCell ⟨g + 1, 0, none⟩ (.bool false) := by
  have c0 : w.cell? ⟨g, 0, none⟩ = some x0 := (blk_cell hv 0).trans rfl
  have f0 := blk_frozen hv 0
  have hv1 := blk_set hv 0 (.int .i64 0)
  have c1 : (w.setCell ⟨g, 0, none⟩ (.int .i64 0)).cell? ⟨g, 1, none⟩ = some x1 := (blk_cell hv1 1).trans rfl
  have f1 := blk_frozen hv1 1
  have hi2 := blk_far (p := ⟨g, 1, none⟩) (blk_far (p := ⟨g, 0, none⟩) hi (by simp) (.int .i64 0)) (by simp) (.slice none 0 0)
  have c2 : ((w.setCell ⟨g, 0, none⟩ (.int .i64 0)).setCell ⟨g, 1, none⟩ (.slice none 0 0)).cell? ⟨g + 1, 0, none⟩ = some x2 := (blk_cell hi2 0).trans rfl
  have f2 := blk_frozen hi2 0
  clear hv hi hv1 hi2
  refine callsD_of_wpS Try.func38 rfl fun c₀ cs hu => ?_
  apply wpS_seq
  apply wpS_region
  simp [wpOpsS, go_sem, recoverD, hu, Try.ntmps38, Exit.thenS]
  apply wpS_seq
  apply wpS_region
  simp [wpOpsS, go_sem, Exit.thenS]
  refine wpS_cond (t := true) (by simp [Act.eval, Array.replicate]) ?_
  simp only [if_true]
  apply wpS_region
  simp [wpOpsS, go_sem, bodyPostS, results, Try.results38, Array.replicate, c0, f0, c1, f1, c2, f2]
/-- What Do holds on its way: its parameters' variables, its results', the maker's, and the maker's children that are there by now. -/
structure DEnv (w : World) (ca cr ck : Array Value) (v : Value) (ps : List S27) (W : World) : Prop where
  below : Below w.heap.size w W
  ab : W.heap[w.heap.size]? = some (.cells ca 30 (0, 0))
  rb : W.heap[w.heap.size + 1]? = some (.cells cr 32 (0, 0))
  vb : W.heap[w.heap.size + 1 + 1]? = some (.cells #[.int .i64 0, .slice none 0 0] 27 (0, 0))
  ib : W.heap[w.heap.size + 1 + 1 + 1]? = some (.cells #[.bool false] 4 (0, 0))
  kb : W.heap[w.heap.size + 1 + 1 + 1 + 1]? = some (.cells ck 62 (0, 0))
  row : OwnRow (k27.K w) 27 2 W (w.heap.size + 5) v ps
theorem alloc_size (W : World) (o : Obj) : (W.alloc o).heap.size = W.heap.size + 1 := by simp
theorem DEnv.start (w : World) (ca cr ck : Array Value) : DEnv w ca cr ck (.slice none 0 0) [] (((((w.alloc (.cells ca 30)).alloc (.cells cr 32)).alloc (.cells #[.int .i64 0, .slice none 0 0] 27)).alloc (.cells #[.bool false] 4)).alloc (.cells ck 62)) := by
  refine ⟨?_, ?_, ?_, ?_, ?_, ?_, OwnRow.none_ _ _ _ _ _⟩
  · repeat (first | exact Below.refl _ _ | apply below_alloc)
  · exact blk_alloc (blk_alloc (blk_alloc (blk_alloc (blk_new _ _) _) _) _) _
  · exact blk_alloc (blk_alloc (blk_alloc (by have := blk_new (w.alloc (.cells ca 30)) (.cells cr 32); rwa [alloc_size] at this) _) _) _
  · exact blk_alloc (blk_alloc (by have := blk_new ((w.alloc (.cells ca 30)).alloc (.cells cr 32)) (.cells #[.int .i64 0, .slice none 0 0] 27); rwa [alloc_size, alloc_size] at this) _) _
  · exact blk_alloc (by have := blk_new (((w.alloc (.cells ca 30)).alloc (.cells cr 32)).alloc (.cells #[.int .i64 0, .slice none 0 0] 27)) (.cells #[.bool false] 4); rwa [alloc_size, alloc_size, alloc_size] at this) _
  · have := blk_new ((((w.alloc (.cells ca 30)).alloc (.cells cr 32)).alloc (.cells #[.int .i64 0, .slice none 0 0] 27)).alloc (.cells #[.bool false] 4)) (.cells ck 62); rwa [alloc_size, alloc_size, alloc_size, alloc_size] at this
theorem DEnv.then_ {w W W1 : World} {ca cr ck : Array Value} {v : Value} {ps : List S27} (h : DEnv w ca cr ck v ps W) (hb : Below W.heap.size W W1) : DEnv w ca cr ck v ps W1 :=
  ⟨below_step h.below hb, blk_below h.ab hb, blk_below h.rb hb, blk_below h.vb hb, blk_below h.ib hb, blk_below h.kb hb, h.row.below hb⟩
theorem DEnv.drewN {w W : World} {ca cr ck : Array Value} {v : Value} {ps : List S27} (h : DEnv w ca cr ck v ps W) (n : Nat) : DEnv w ca cr ck v ps (W.drewN n) := h.then_ (pw_below_drewN (Below.refl _ _) n)
theorem DEnv.drew {w W : World} {ca cr ck : Array Value} {v : Value} {ps : List S27} (h : DEnv w ca cr ck v ps W) : DEnv w ca cr ck v ps W.drew := h.then_ (below_drew (Below.refl _ _))
theorem DEnv.kc {w W : World} {ca cr : Array Value} {v : Value} {ps : List S27} {c0 c1 c2 c3 c4 c5 c6 c7 : Value} (h : DEnv w ca cr #[c0, c1, c2, c3, c4, c5, c6, c7] v ps W) :
    W.cell? ⟨w.heap.size + 1 + 1 + 1 + 1, 0, none⟩ = some c0 ∧ W.cell? ⟨w.heap.size + 1 + 1 + 1 + 1, 1, none⟩ = some c1 ∧ W.cell? ⟨w.heap.size + 1 + 1 + 1 + 1, 2, none⟩ = some c2 ∧ W.cell? ⟨w.heap.size + 1 + 1 + 1 + 1, 3, none⟩ = some c3 ∧ W.cell? ⟨w.heap.size + 1 + 1 + 1 + 1, 4, none⟩ = some c4 ∧ W.cell? ⟨w.heap.size + 1 + 1 + 1 + 1, 5, none⟩ = some c5 ∧ W.cell? ⟨w.heap.size + 1 + 1 + 1 + 1, 6, none⟩ = some c6 ∧ W.cell? ⟨w.heap.size + 1 + 1 + 1 + 1, 7, none⟩ = some c7 ∧ W.frozen? ⟨w.heap.size + 1 + 1 + 1 + 1, 1, none⟩ = false :=
  ⟨(blk_cell h.kb 0).trans rfl, (blk_cell h.kb 1).trans rfl, (blk_cell h.kb 2).trans rfl, (blk_cell h.kb 3).trans rfl, (blk_cell h.kb 4).trans rfl, (blk_cell h.kb 5).trans rfl, (blk_cell h.kb 6).trans rfl, (blk_cell h.kb 7).trans rfl, blk_frozen h.kb 1⟩
theorem DEnv.ac {w W : World} {cr ck : Array Value} {v : Value} {ps : List S27} {c0 c1 : Value} (h : DEnv w #[c0, c1] cr ck v ps W) : W.cell? ⟨w.heap.size, 0, none⟩ = some c0 ∧ W.cell? ⟨w.heap.size, 1, none⟩ = some c1 := ⟨(blk_cell h.ab 0).trans rfl, (blk_cell h.ab 1).trans rfl⟩
theorem DEnv.append_ {w W w1 : World} {ca cr ck : Array Value} {v v1 : Value} {ps ps' : List S27} (h : DEnv w ca cr ck v ps W) (hb : Below (w.heap.size + 5) W w1) (hr : OwnRow (k27.K w) 27 2 w1 (w.heap.size + 5) v1 ps') : DEnv w ca cr ck v1 ps' w1 :=
  ⟨h.below.trans (hb.mono (by omega)), (hb.block _ (by omega)).trans h.ab, (hb.block _ (by omega)).trans h.rb, (hb.block _ (by omega)).trans h.vb, (hb.block _ (by omega)).trans h.ib, (hb.block _ (by omega)).trans h.kb, hr⟩
theorem DEnv.store_ {w W : World} {ca cr : Array Value} {v1 : Value} {ps : List S27} {c0 c1 c2 c3 c4 c5 c6 c7 u : Value} (h : DEnv w ca cr #[c0, c1, c2, c3, c4, c5, c6, c7] v1 ps W) : DEnv w ca cr #[c0, u, c2, c3, c4, c5, c6, c7] v1 ps (W.setCell ⟨w.heap.size + 1 + 1 + 1 + 1, 1, none⟩ u) :=
  ⟨below_set h.below (by omega), blk_far h.ab (by simp; omega) u, blk_far h.rb (by simp) u, blk_far h.vb (by simp) u, blk_far h.ib (by simp) u, blk_put h.kb 1 u rfl, h.row.set_ h.kb (by decide) 1 u⟩
theorem DEnv.big {w W : World} {ca cr ck : Array Value} {v : Value} {ps : List S27} (h : DEnv w ca cr ck v ps W) : w.heap.size + 5 ≤ W.heap.size := by have := blk_lt h.kb; omega
theorem two_cells {w W : World} {a b : Addr} {u v : Value} (h0 : w.cell? a = some u) (h1 : w.cell? b = some v) (hb : Below w.heap.size w W) : W.cell? a = some u ∧ W.cell? b = some v := ⟨pw_cell_below hb h0, pw_cell_below hb h1⟩
theorem take_succ_map (P : List Int) (l : List S27) (j : Nat) (p : Int) (hj : j < P.length) (hp : rd P (j : Int) = p) : (P.take j).map (rd_T27 l) ++ [rd_T27 l p] = (P.take (j + 1)).map (rd_T27 l) := by
  have e : P[j] = p := by rw [← hp]; unfold rd; simp [List.getD_eq_getElem?_getD, List.getElem?_eq_getElem hj]
  rw [← e, List.take_add_one, List.getElem?_eq_getElem hj, List.map_append]; rfl
theorem DEnv.kids {w W : World} {ca cr ck : Array Value} {A2 : Option Addr} {n2 c2 : Nat} {ps : List S27} (h : DEnv w ca cr ck (.slice A2 n2 c2) ps W) : n2 = ps.length ∧ n2 ≤ c2 ∧ Kd.C k27 W A2 ps.length ps := by
  obtain ⟨A, c, e, hle, hr⟩ := h.row.reads
  injection e with e1 e2 e3
  subst e1 e2 e3
  exact ⟨rfl, hle, ReadsRow.imp_ hr (Below.refl _ _) (fun p c hp => k27.K_below h.below hp)⟩
/-- What Do answers where a value is made. -/
def Gives (w : World) (k : Int) (f : List Int) (e : Ending) (w' : World) : Prop :=
  ∃ A c, e = .returned (.tuple #[.agg #[.int .i64 k, .slice A f.length c], .bool true]) ∧ f.length ≤ c ∧ Kd.R (Kd.int .i64) 3 w' w.heap.size (fun _ => True) (.slice A f.length c) f ∧ Below w.heap.size w w'
theorem gives_end {w Wc W3 : World} {ca cr ck : Array Value} {v : Value} {ps : List S27} {k : Int} {f : List Int} {A : Option Addr} {c : Nat} (h : DEnv w ca cr ck v ps Wc) (hb : Below Wc.heap.size Wc W3) (hc : f.length ≤ c)
    (hR : Kd.R (Kd.int .i64) 3 W3 Wc.heap.size (fun _ => True) (.slice A f.length c) f) (u0 u1 u2 : Value) :
    Gives w k f (.returned (.tuple #[.agg #[.int .i64 k, .slice A f.length c], .bool true])) (((W3.setCell ⟨w.heap.size + 1 + 1, 0, none⟩ u0).setCell ⟨w.heap.size + 1 + 1, 1, none⟩ u1).setCell ⟨w.heap.size + 1 + 1 + 1, 0, none⟩ u2) := by
  refine ⟨A, c, rfl, hc, ?_, below_set (below_set (below_set (h.then_ hb).below (by omega)) (by omega)) (by omega)⟩
  have h1 := Kd.R_newB hR h.vb
  have h2 := Kd.R_far (p := ⟨w.heap.size + 1 + 1, 1, none⟩) (Kd.R_far (p := ⟨w.heap.size + 1 + 1, 0, none⟩) h1 (fun _ hk => hk.2) u0) (fun _ hk => hk.2) u1
  have h3 := Kd.R_mono h2 (fun k hk => (trivial : True))
  have h4 := Kd.R_mono (Kd.R_bound h3) (ok' := fun k => k ≠ w.heap.size + 1 + 1 + 1) (fun k hk => by have := hk.2.1; have := blk_lt h.ib; omega)
  have h5 := Kd.R_far (p := ⟨w.heap.size + 1 + 1 + 1, 0, none⟩) h4 (fun _ hk => hk) u2
  exact Kd.R_mono (Kd.R_lower h5 h.below.size) (fun _ _ => trivial)
set_option maxHeartbeats 2000000 in
set_option maxRecDepth 100000 in
theorem do_ok (op : Int) (A : Option Addr) (c : Nat) (P : List Int) (Al : Option Addr) (cl : Nat) (l : List S27) (y m d h i s : Int) (k : Int) (f : List Int) (w : World)
    (hP : Kd.C (Kd.int .i64) w A P.length P) (hl : Kd.C k27 w Al l.length l) (hin : ∀ j : Int, 0 ≤ j → j < P.length → 0 ≤ rd P j ∧ rd P j < l.length) (hop : op ≠ 0) (hsz : P.length ≤ 1000000)
    (hm : ∀ W A2 c2, Below w.heap.size w W → Kd.C k27 W A2 P.length (P.map (rd_T27 l)) → P.length ≤ c2 → Calls Try.prog 41 #[.agg #[.int .i64 op, .slice A2 P.length c2, .int .i64 y, .int .i64 m, .int .i64 d, .int .i64 h, .int .i64 i, .int .i64 s]] W (Makes W k f)) :
    Calls Try.prog 22 #[.agg #[.int .i64 op, .slice A P.length c], .slice Al l.length cl, .agg #[.int .i64 y, .int .i64 m, .int .i64 d, .int .i64 h, .int .i64 i, .int .i64 s]] w (Gives w k f) := by
  have hmf : ∀ (fn : Fn) (first cap : Array Value) (w : World), (Instr.makeFunc fn first cap).run Try.prog w = .ok (.func fn first cap) w := fun _ _ _ _ => rfl
  have HP := Aside0.mk hP
  have HL := Aside0.mk hl
  have HI := Aside0.mk hin
  have HO := Aside0.mk hop
  have HM := Aside0.mk hm
  have HZ := Aside0.mk hsz
  clear hP hl hin hop hm hsz
  generalize hn : P.length = n at *
  generalize hq : l.length = q at *
  have hn' := Aside0.mk hn
  have hq' := Aside0.mk hq
  have HN := Aside0.mk (Kd.C_max HP.out)
  clear hn hq
  go_enter_defers Try.func22, Try.ntmps22
  go_wp2_with fail
  go_loopg [19] n (fun kq v19 w' => ∃ (j : Nat) (v : Value), v19 = .int .i64 (j : Int) ∧ Aside0 (kq + j = n) ∧ Aside0 (DEnv w #[.int .i64 op, .slice A n c] #[.int .i64 y, .int .i64 m, .int .i64 d, .int .i64 h, .int .i64 i, .int .i64 s] #[.int .i64 op, v, .int .i64 y, .int .i64 m, .int .i64 d, .int .i64 h, .int .i64 i, .int .i64 s] v ((P.take j).map (rd_T27 l)) w'))
  case atStart => exact ⟨0, _, rfl, ⟨by omega⟩, ⟨DEnv.start w _ _ _⟩⟩
  case round =>
    obtain ⟨j, v, rfl, HJ, HD⟩ := hrel
    by_cases hj : (j : Int) < n
    · have hj' := decide_eq_true hj
      obtain ⟨ad, eA, hx⟩ := Kd.at_int (Kd.C_below HP.out HD.out.below) j (by omega) hj
      subst eA
      replace hx : wr.cell? (ad.add j) = some (.int .i64 (rd P (j : Int))) := by simpa using hx
      obtain ⟨hp0, hp1⟩ := HI.out j (by omega) hj
      obtain ⟨al, A1, c1, eAl, hx0, hx1, hcA, hCA⟩ := at_T27 (by have := HL.out; rw [← hq'.out] at this; exact this) (rd P j) hp0 (by rw [hq'.out]; exact hp1)
      have X0 := Aside0.mk hx0
      have X1 := Aside0.mk hx1
      have XK := Aside0.mk (k27_mk w _ hcA hCA)
      clear hcA hCA
      subst eAl
      obtain ⟨a0, a1⟩ := HD.out.ac
      have hpq := decide_eq_true hp1
      have hpz := decide_eq_true hp0
      generalize hpd : rd P (j : Int) = p at *
      have HPD := Aside0.mk hpd
      clear hpd
      go_wp2_with (go_at_call 39; refine (act_must.calls true _ _ rfl).mono ?_; rintro e w' ⟨rfl, ⟨nd, rfl⟩⟩)
      have HD2 := Aside0.mk (HD.out.drewN nd)
      clear HD a0 a1 hx hx0 hx1
      generalize wr.drewN nd = W1 at *
      have HD := HD2
      clear HD2
      have HS : Aside0 ((((P.take j).map (rd_T27 l)).length + 1) * 32 ≤ 140737488355328) := ⟨by have := HZ.out; have := HJ.out; simp; omega⟩
      have hk : W1.drew.cell? ⟨w.heap.size + 1 + 1 + 1 + 1, 1, none⟩ = some v := HD.out.kc.2.1
      have hk1 : ∀ o, (W1.drew.alloc o).cell? ⟨w.heap.size + 1 + 1 + 1 + 1, 1, none⟩ = some v := fun o => pw_cell_below (below_alloc (Below.refl _ _) o) HD.out.kc.2.1
      have hk2 : ∀ o, (W1.alloc o).drew.cell? ⟨w.heap.size + 1 + 1 + 1 + 1, 1, none⟩ = some v := fun o => pw_cell_below (below_alloc (Below.refl _ _) o) HD.out.kc.2.1
      have hk3 : ∀ o, (W1.alloc o).cell? ⟨w.heap.size + 1 + 1 + 1 + 1, 1, none⟩ = some v := fun o => pw_cell_below (below_alloc (Below.refl _ _) o) HD.out.kc.2.1
      have hs0 := pw_cell_below (by repeat (first | (with_reducible first | exact HD.out.below | apply below_alloc | apply pw_below_drewN | apply below_drew) | exact HD.out.below | refine below_set ?_ (by omega)) : Below w.heap.size w W1.drew) X0.out
      have hs1 := pw_cell_below (by repeat (first | (with_reducible first | exact HD.out.below | apply below_alloc | apply pw_below_drewN | apply below_drew) | exact HD.out.below | refine below_set ?_ (by omega)) : Below w.heap.size w W1.drew) X1.out
      refine wp_region_noPanic ?_
      go_region_law (first | (refine OwnRow.append_step (P := Try.prog) (W := W1.drew) (w0 := W1.drew) (R := k27.K w) (w.heap.size + 5) rfl (.tmp 35) (.tmp 40) 24 27 (.agg #[.int .i64 0, .slice none 0 0]) 2 32 rfl Try.underlying24 info27 rfl (by decide) (by decide) v _ (rd_T27 l p) [.int .i64 (rd_T27 l p).f0, .slice A1 (rd_T27 l p).f1.length c1] rfl rfl XK.out rfl (by simp [Value.oneCell']) HD.out.drew.row (Below.refl _ _) HD.out.drew.big HS.out ?_; intro v1 W2 hrow hb hg hat; obtain ⟨A2, c2, ev2, _⟩ := hrow.slice_; have HV2 := Aside0.mk hrow; clear hrow; generalize ((P.take j).map (rd_T27 l) ++ [rd_T27 l p]).length = n2 at ev2; subst ev2; have hrow := HV2.out; have HDn := Aside0.mk (HD.out.drew.append_ hb hrow); clear hrow hb hg hat HD; have HD := HDn; clear HDn; have kk1 := HD.out.kc.2.1; have kk8 := HD.out.kc.2.2.2.2.2.2.2.2; have kd1 := HD.out.drew.kc.2.1; have kd8 := HD.out.drew.kc.2.2.2.2.2.2.2.2))
      all_goals (refine NoPanic.normal ?_)
      all_goals
        go_wp2_with fail
        go_roundg (n - (j + 1))
        case measure => have := HJ.out; omega
        case rel =>
          have HW := HD.out.store_ (u := .slice A2 n2 c2)
          rw [take_succ_map P l j p (by rw [hn'.out]; omega) HPD.out] at HW
          exact ⟨j + 1, .slice A2 n2 c2, by rw [show wrap64 ((j : Int) + 1) = ((j + 1 : Nat) : Int) from by have := HN.out; unfold wrap64; omega], ⟨by have := HJ.out; omega⟩, ⟨HW⟩⟩
    · have hj' := decide_eq_false hj
      obtain ⟨a0, a1⟩ := HD.out.ac
      have hne : (op == 0) = false := beq_eq_false_iff_ne.mpr HO.out
      obtain ⟨k0, k1, k2, k3, k4, k5, k6, k7, k8⟩ := HD.out.kc
      obtain ⟨A2, c2, ev2, _⟩ := HD.out.row.slice_
      have hlen : ((P.take j).map (rd_T27 l)).length = n := by have := HJ.out; have := hn'.out; simp; omega
      rw [hlen] at ev2
      subst ev2
      have hps : (P.take j).map (rd_T27 l) = P.map (rd_T27 l) := by have := HJ.out; have := hn'.out; rw [List.take_of_length_le (by omega)]
      have hC := Aside0.mk HD.out.kids.2
      rw [hps] at hC
      have hplen : (P.map (rd_T27 l)).length = n := by have := hn'.out; simp; omega
      rw [hplen] at hC
      go_wp2_with (go_at_call 41; refine (HM.out _ _ _ HD.out.below hC.out.2 hC.out.1).mono ?_; rintro e w2 ⟨A3, c3, rfl, hc3, hR, hb⟩; have HR3 := Aside0.mk hR; have HB3 := Aside0.mk hb; have HC3 := Aside0.mk hc3; have HD3 := HD.out.then_ hb; have q0 : w2.cell? ⟨w.heap.size + 1 + 1, 0, none⟩ = some (.int .i64 0) := (blk_cell HD3.vb 0).trans rfl; have q1 := blk_frozen HD3.vb 0; have hv1 := blk_set HD3.vb 0 (.int .i64 k); have q2 : (w2.setCell ⟨w.heap.size + 1 + 1, 0, none⟩ (.int .i64 k)).cell? ⟨w.heap.size + 1 + 1, 1, none⟩ = some (.slice none 0 0) := (blk_cell hv1 1).trans rfl; have q3 := blk_frozen hv1 1; have hi2 := blk_far (p := ⟨w.heap.size + 1 + 1, 1, none⟩) (blk_far (p := ⟨w.heap.size + 1 + 1, 0, none⟩) HD3.ib (by simp) (.int .i64 k)) (by simp) (.slice A3 f.length c3); have q4 : ((w2.setCell ⟨w.heap.size + 1 + 1, 0, none⟩ (.int .i64 k)).setCell ⟨w.heap.size + 1 + 1, 1, none⟩ (.slice A3 f.length c3)).cell? ⟨w.heap.size + 1 + 1 + 1, 0, none⟩ = some (.bool false) := (blk_cell hi2 0).trans rfl; have q5 := blk_frozen hi2 0; have hV := Aside0.mk (blk_far (p := ⟨w.heap.size + 1 + 1 + 1, 0, none⟩) (blk_set hv1 1 (.slice A3 f.length c3)) (by simp) (.bool true)); have hI := Aside0.mk (blk_set hi2 0 (.bool true)); clear hR hb hc3 HD3 hv1 hi2)
      refine leaves_cons (f := 38) (args := #[.pointer (some ⟨w.heap.size + 1 + 1, 0, none⟩), .pointer (some ⟨w.heap.size + 1 + 1 + 1, 0, none⟩)]) (by simp) (by simp [go_sem]) ?_
      refine (do1_idle _ _ _).mono ?_
      rintro e u' w'' ⟨rfl, rfl, rfl⟩
      have v0 := blk_cell hV.out 0
      have v1 := blk_cell hV.out 1
      have i0 := blk_cell hI.out 0
      have hG := gives_end (k := k) HD.out HB3.out HC3.out HR3.out (.int .i64 k) (.slice A3 f.length c3) (.bool true)
      simp [Leaves, settle, results, Try.results22, go_sem, v0, v1, i0]
      exact hG
/-- What Do answers where nothing is made. -/
def GivesNot (w : World) (e : Ending) (w' : World) : Prop := e = .returned (.tuple #[.agg #[.int .i64 0, .slice none 0 0], .bool false]) ∧ Below w.heap.size w w'
set_option maxHeartbeats 2000000 in
set_option maxRecDepth 100000 in
theorem do_no (op : Int) (A : Option Addr) (c : Nat) (P : List Int) (Al : Option Addr) (cl : Nat) (l : List S27) (y m d h i s : Int) (w : World)
    (hP : Kd.C (Kd.int .i64) w A P.length P) (hl : Kd.C k27 w Al l.length l) (hin : ∀ j : Int, 0 ≤ j → j < P.length → 0 ≤ rd P j ∧ rd P j < l.length) (hop : op ≠ 0) (hsz : P.length ≤ 1000000)
    (hm : ∀ W A2 c2, Below w.heap.size w W → Kd.C k27 W A2 P.length (P.map (rd_T27 l)) → P.length ≤ c2 → Calls Try.prog 41 #[.agg #[.int .i64 op, .slice A2 P.length c2, .int .i64 y, .int .i64 m, .int .i64 d, .int .i64 h, .int .i64 i, .int .i64 s]] W (Dies W)) :
    Calls Try.prog 22 #[.agg #[.int .i64 op, .slice A P.length c], .slice Al l.length cl, .agg #[.int .i64 y, .int .i64 m, .int .i64 d, .int .i64 h, .int .i64 i, .int .i64 s]] w (GivesNot w) := by
  have hmf : ∀ (fn : Fn) (first cap : Array Value) (w : World), (Instr.makeFunc fn first cap).run Try.prog w = .ok (.func fn first cap) w := fun _ _ _ _ => rfl
  have HP := Aside0.mk hP
  have HL := Aside0.mk hl
  have HI := Aside0.mk hin
  have HO := Aside0.mk hop
  have HM := Aside0.mk hm
  have HZ := Aside0.mk hsz
  clear hP hl hin hop hm hsz
  generalize hn : P.length = n at *
  generalize hq : l.length = q at *
  have hn' := Aside0.mk hn
  have hq' := Aside0.mk hq
  have HN := Aside0.mk (Kd.C_max HP.out)
  clear hn hq
  go_enter_defers Try.func22, Try.ntmps22
  go_wp2_with fail
  go_loopg [19] n (fun kq v19 w' => ∃ (j : Nat) (v : Value), v19 = .int .i64 (j : Int) ∧ Aside0 (kq + j = n) ∧ Aside0 (DEnv w #[.int .i64 op, .slice A n c] #[.int .i64 y, .int .i64 m, .int .i64 d, .int .i64 h, .int .i64 i, .int .i64 s] #[.int .i64 op, v, .int .i64 y, .int .i64 m, .int .i64 d, .int .i64 h, .int .i64 i, .int .i64 s] v ((P.take j).map (rd_T27 l)) w'))
  case atStart => exact ⟨0, _, rfl, ⟨by omega⟩, ⟨DEnv.start w _ _ _⟩⟩
  case round =>
    obtain ⟨j, v, rfl, HJ, HD⟩ := hrel
    by_cases hj : (j : Int) < n
    · have hj' := decide_eq_true hj
      obtain ⟨ad, eA, hx⟩ := Kd.at_int (Kd.C_below HP.out HD.out.below) j (by omega) hj
      subst eA
      replace hx : wr.cell? (ad.add j) = some (.int .i64 (rd P (j : Int))) := by simpa using hx
      obtain ⟨hp0, hp1⟩ := HI.out j (by omega) hj
      obtain ⟨al, A1, c1, eAl, hx0, hx1, hcA, hCA⟩ := at_T27 (by have := HL.out; rw [← hq'.out] at this; exact this) (rd P j) hp0 (by rw [hq'.out]; exact hp1)
      have X0 := Aside0.mk hx0
      have X1 := Aside0.mk hx1
      have XK := Aside0.mk (k27_mk w _ hcA hCA)
      clear hcA hCA
      subst eAl
      obtain ⟨a0, a1⟩ := HD.out.ac
      have hpq := decide_eq_true hp1
      have hpz := decide_eq_true hp0
      generalize hpd : rd P (j : Int) = p at *
      have HPD := Aside0.mk hpd
      clear hpd
      go_wp2_with (go_at_call 39; refine (act_must.calls true _ _ rfl).mono ?_; rintro e w' ⟨rfl, ⟨nd, rfl⟩⟩)
      have HD2 := Aside0.mk (HD.out.drewN nd)
      clear HD a0 a1 hx hx0 hx1
      generalize wr.drewN nd = W1 at *
      have HD := HD2
      clear HD2
      have HS : Aside0 ((((P.take j).map (rd_T27 l)).length + 1) * 32 ≤ 140737488355328) := ⟨by have := HZ.out; have := HJ.out; simp; omega⟩
      have hk : W1.drew.cell? ⟨w.heap.size + 1 + 1 + 1 + 1, 1, none⟩ = some v := HD.out.kc.2.1
      have hk1 : ∀ o, (W1.drew.alloc o).cell? ⟨w.heap.size + 1 + 1 + 1 + 1, 1, none⟩ = some v := fun o => pw_cell_below (below_alloc (Below.refl _ _) o) HD.out.kc.2.1
      have hk2 : ∀ o, (W1.alloc o).drew.cell? ⟨w.heap.size + 1 + 1 + 1 + 1, 1, none⟩ = some v := fun o => pw_cell_below (below_alloc (Below.refl _ _) o) HD.out.kc.2.1
      have hk3 : ∀ o, (W1.alloc o).cell? ⟨w.heap.size + 1 + 1 + 1 + 1, 1, none⟩ = some v := fun o => pw_cell_below (below_alloc (Below.refl _ _) o) HD.out.kc.2.1
      have hs0 := pw_cell_below (by repeat (first | (with_reducible first | exact HD.out.below | apply below_alloc | apply pw_below_drewN | apply below_drew) | exact HD.out.below | refine below_set ?_ (by omega)) : Below w.heap.size w W1.drew) X0.out
      have hs1 := pw_cell_below (by repeat (first | (with_reducible first | exact HD.out.below | apply below_alloc | apply pw_below_drewN | apply below_drew) | exact HD.out.below | refine below_set ?_ (by omega)) : Below w.heap.size w W1.drew) X1.out
      refine wp_region_noPanic ?_
      go_region_law (first | (refine OwnRow.append_step (P := Try.prog) (W := W1.drew) (w0 := W1.drew) (R := k27.K w) (w.heap.size + 5) rfl (.tmp 35) (.tmp 40) 24 27 (.agg #[.int .i64 0, .slice none 0 0]) 2 32 rfl Try.underlying24 info27 rfl (by decide) (by decide) v _ (rd_T27 l p) [.int .i64 (rd_T27 l p).f0, .slice A1 (rd_T27 l p).f1.length c1] rfl rfl XK.out rfl (by simp [Value.oneCell']) HD.out.drew.row (Below.refl _ _) HD.out.drew.big HS.out ?_; intro v1 W2 hrow hb hg hat; obtain ⟨A2, c2, ev2, _⟩ := hrow.slice_; have HV2 := Aside0.mk hrow; clear hrow; generalize ((P.take j).map (rd_T27 l) ++ [rd_T27 l p]).length = n2 at ev2; subst ev2; have hrow := HV2.out; have HDn := Aside0.mk (HD.out.drew.append_ hb hrow); clear hrow hb hg hat HD; have HD := HDn; clear HDn; have kk1 := HD.out.kc.2.1; have kk8 := HD.out.kc.2.2.2.2.2.2.2.2; have kd1 := HD.out.drew.kc.2.1; have kd8 := HD.out.drew.kc.2.2.2.2.2.2.2.2))
      all_goals (refine NoPanic.normal ?_)
      all_goals
        go_wp2_with fail
        go_roundg (n - (j + 1))
        case measure => have := HJ.out; omega
        case rel =>
          have HW := HD.out.store_ (u := .slice A2 n2 c2)
          rw [take_succ_map P l j p (by rw [hn'.out]; omega) HPD.out] at HW
          exact ⟨j + 1, .slice A2 n2 c2, by rw [show wrap64 ((j : Int) + 1) = ((j + 1 : Nat) : Int) from by have := HN.out; unfold wrap64; omega], ⟨by have := HJ.out; omega⟩, ⟨HW⟩⟩
    · have hj' := decide_eq_false hj
      obtain ⟨a0, a1⟩ := HD.out.ac
      have hne : (op == 0) = false := beq_eq_false_iff_ne.mpr HO.out
      obtain ⟨k0, k1, k2, k3, k4, k5, k6, k7, k8⟩ := HD.out.kc
      obtain ⟨A2, c2, ev2, _⟩ := HD.out.row.slice_
      have hlen : ((P.take j).map (rd_T27 l)).length = n := by have := HJ.out; have := hn'.out; simp; omega
      rw [hlen] at ev2
      subst ev2
      have hps : (P.take j).map (rd_T27 l) = P.map (rd_T27 l) := by have := HJ.out; have := hn'.out; rw [List.take_of_length_le (by omega)]
      have hC := Aside0.mk HD.out.kids.2
      rw [hps] at hC
      have hplen : (P.map (rd_T27 l)).length = n := by have := hn'.out; simp; omega
      rw [hplen] at hC
      go_wp2_with (go_at_call 41; refine (HM.out _ _ _ HD.out.below hC.out.2 hC.out.1).mono ?_; rintro e w2 ⟨⟨u, pv, rfl⟩, hb⟩; have HD3 := Aside0.mk (HD.out.then_ hb); clear hb)
      refine leaves_cons (f := 38) (args := #[.pointer (some ⟨w.heap.size + 1 + 1, 0, none⟩), .pointer (some ⟨w.heap.size + 1 + 1 + 1, 0, none⟩)]) (by simp) (by simp [go_sem]) ?_
      refine (do1_panicking (w.heap.size + 1 + 1) u pv _ _ _ w2 HD3.out.vb HD3.out.ib).mono ?_
      rintro e u' w'' ⟨rfl, rfl, rfl⟩
      have hv1 := blk_set (blk_set HD3.out.vb 0 (.int .i64 0)) 1 (.slice none 0 0)
      have hV := blk_far (p := ⟨w.heap.size + 1 + 1 + 1, 0, none⟩) hv1 (by simp) (.bool false)
      have hI := blk_set (blk_far (p := ⟨w.heap.size + 1 + 1, 1, none⟩) (blk_far (p := ⟨w.heap.size + 1 + 1, 0, none⟩) HD3.out.ib (by simp) (.int .i64 0)) (by simp) (.slice none 0 0)) 0 (.bool false)
      have v0 := blk_cell hV 0
      have v1 := blk_cell hV 1
      have i0 := blk_cell hI 0
      have hG : GivesNot w (.returned (.tuple #[.agg #[.int .i64 0, .slice none 0 0], .bool false])) (((w2.setCell ⟨w.heap.size + 1 + 1, 0, none⟩ (.int .i64 0)).setCell ⟨w.heap.size + 1 + 1, 1, none⟩ (.slice none 0 0)).setCell ⟨w.heap.size + 1 + 1 + 1, 0, none⟩ (.bool false)) := ⟨rfl, below_set (below_set (below_set HD3.out.below (by omega)) (by omega)) (by omega)⟩
      clear hv1 hV hI
      simp [Leaves, settle, results, Try.results22, go_sem, v0, v1, i0]

      exact hG

/-- What the method of an op makes. -/
def act_Do.g (k : Nat) (a0_0 : Int) (l0_1 : List Int) (l1 : List (S27)) (a2_0 : Int) (a2_1 : Int) (a2_2 : Int) (a2_3 : Int) (a2_4 : Int) (a2_5 : Int) : Option (Option (Int × List Int)) :=
  if a0_0 = 1 then (act_maker_date.f k 1 (l0_1.map (rd_T27 l1)) a2_0 a2_1 a2_2 a2_3 a2_4 a2_5).map some else if a0_0 = 12 then act_maker_money.f k 12 (l0_1.map (rd_T27 l1)) a2_0 a2_1 a2_2 a2_3 a2_4 a2_5 else none
theorem map_leo {α β : Type} {a b : Option α} {f : α → β} (h : LeO a b) : LeO (a.map f) (b.map f) := fun r hr => by
  obtain ⟨x, hx, rfl⟩ := Option.map_eq_some_iff.mp hr
  rw [h x hx]; rfl
theorem act_Do.g_mono (k : Nat) (a0_0 : Int) (l0_1 : List Int) (l1 : List (S27)) (a2_0 a2_1 a2_2 a2_3 a2_4 a2_5 : Int) : LeO (act_Do.g k a0_0 l0_1 l1 a2_0 a2_1 a2_2 a2_3 a2_4 a2_5) (act_Do.g (k + 1) a0_0 l0_1 l1 a2_0 a2_1 a2_2 a2_3 a2_4 a2_5) := by
  unfold act_Do.g
  refine LeO.ite (map_leo (act_maker_date.mono _ _ _ _ _ _ _ _ _)) ?_
  refine LeO.ite (act_maker_money.mono _ _ _ _ _ _ _ _ _) ?_
  exact LeO.refl _
def act_Do.f (k : Nat) (a0_0 : Int) (l0_1 : List Int) (l1 : List (S27)) (a2_0 : Int) (a2_1 : Int) (a2_2 : Int) (a2_3 : Int) (a2_4 : Int) (a2_5 : Int) : Option (Int × List Int × Bool) :=
  if l0_1.length ≤ 1000000 ∧ (∀ p ∈ l0_1, 0 ≤ p ∧ p < (l1.length : Int)) ∧ a0_0 ≠ 0 then
    (act_Do.g k a0_0 l0_1 l1 a2_0 a2_1 a2_2 a2_3 a2_4 a2_5).bind fun o => if h : o.isSome = true then (act_Right.f (o.get h).1 (o.get h).2).bind fun b => if b = true then some ((o.get h).1, (o.get h).2, true) else some (0, [], false) else some (0, [], false)
  else none
theorem act_Do.mono : ∀ a0_0 l0_1 l1 a2_0 a2_1 a2_2 a2_3 a2_4 a2_5 k, LeO (act_Do.f k a0_0 l0_1 l1 a2_0 a2_1 a2_2 a2_3 a2_4 a2_5) (act_Do.f (k + 1) a0_0 l0_1 l1 a2_0 a2_1 a2_2 a2_3 a2_4 a2_5) := by
  intro a0_0 l0_1 l1 a2_0 a2_1 a2_2 a2_3 a2_4 a2_5 k
  unfold act_Do.f
  refine LeO.ite ?_ (LeO.refl _)
  refine LeO.bind (act_Do.g_mono _ _ _ _ _ _ _ _ _ _) (fun t => ?_)
  split
  · exact LeO.bind (LeO.refl _) (fun b => LeO.refl _)
  · exact LeO.refl _
theorem act_Do.made (k : Nat) (a0_0 : Int) (l0_1 : List Int) (l1 : List (S27)) (a2_0 a2_1 a2_2 a2_3 a2_4 a2_5 t1 : Int) (t2 : List Int) (W : World) (A2 : Option Addr) (c2 : Nat) (hC : Kd.C k27 W A2 l0_1.length (l0_1.map (rd_T27 l1))) (hc2 : l0_1.length ≤ c2)
    (ht : act_Do.g k a0_0 l0_1 l1 a2_0 a2_1 a2_2 a2_3 a2_4 a2_5 = some (some (t1, t2))) (hb : act_Right.f t1 t2 = some true) :
    Calls Try.prog 41 #[.agg #[.int .i64 a0_0, .slice A2 l0_1.length c2, .int .i64 a2_0, .int .i64 a2_1, .int .i64 a2_2, .int .i64 a2_3, .int .i64 a2_4, .int .i64 a2_5]] W (Makes W t1 t2) := by
  have hR : ∀ W A1 c1, Kd.C (Kd.int .i64) W A1 t2.length t2 → t2.length ≤ c1 → Calls Try.prog 25 #[.agg #[.int .i64 t1, .slice A1 t2.length c1]] W fun e w' => e = .returned (.bool true) ∧ Below W.heap.size W w' := fun W3 A3 c3 hC3 hc3 => act_Right.calls t1 A3 c3 t2 true W3 hC3 hc3 hb
  have e : (l0_1.map (rd_T27 l1)).length = l0_1.length := by simp
  unfold act_Do.g at ht
  by_cases c1 : a0_0 = 1
  · rw [if_pos c1] at ht
    subst c1
    obtain ⟨x, hx, hx2⟩ := Option.map_eq_some_iff.mp ht
    obtain rfl := Option.some.inj hx2
    have ht := hx
    refine made_1_ok A2 l0_1.length c2 a2_0 a2_1 a2_2 a2_3 a2_4 a2_5 t1 t2 W (fun W2 hB2 => ?_) hR
    have hC2 := Kd.C_below hC hB2
    rw [← e] at hC2 hc2 ⊢
    refine (act_maker_date.calls k 1 A2 c2 _ a2_0 a2_1 a2_2 a2_3 a2_4 a2_5 t1 t2 W2 hC2 hc2 ht).mono ?_
    rintro e w' ⟨v, rfl, hR, hB⟩
    obtain ⟨A3, c3, rfl⟩ := Kd.R_slice hR
    exact ⟨A3, c3, rfl, (Kd.R_reads' hR).2.1, hR, hB⟩
  rw [if_neg c1] at ht
  by_cases c12 : a0_0 = 12
  · rw [if_pos c12] at ht
    subst c12
    refine made_12_ok A2 l0_1.length c2 a2_0 a2_1 a2_2 a2_3 a2_4 a2_5 t1 t2 W (fun W2 hB2 => ?_) hR
    have hC2 := Kd.C_below hC hB2
    rw [← e] at hC2 hc2 ⊢
    exact act_maker_money.calls k 12 A2 c2 _ a2_0 a2_1 a2_2 a2_3 a2_4 a2_5 t1 t2 W2 hC2 hc2 ht
  rw [if_neg c12] at ht
  cases ht
theorem act_Do.wrong (k : Nat) (a0_0 : Int) (l0_1 : List Int) (l1 : List (S27)) (a2_0 a2_1 a2_2 a2_3 a2_4 a2_5 t1 : Int) (t2 : List Int) (W : World) (A2 : Option Addr) (c2 : Nat) (hC : Kd.C k27 W A2 l0_1.length (l0_1.map (rd_T27 l1))) (hc2 : l0_1.length ≤ c2)
    (ht : act_Do.g k a0_0 l0_1 l1 a2_0 a2_1 a2_2 a2_3 a2_4 a2_5 = some (some (t1, t2))) (hb : act_Right.f t1 t2 = some false) :
    Calls Try.prog 41 #[.agg #[.int .i64 a0_0, .slice A2 l0_1.length c2, .int .i64 a2_0, .int .i64 a2_1, .int .i64 a2_2, .int .i64 a2_3, .int .i64 a2_4, .int .i64 a2_5]] W (Dies W) := by
  have hR : ∀ W A1 c1, Kd.C (Kd.int .i64) W A1 t2.length t2 → t2.length ≤ c1 → Calls Try.prog 25 #[.agg #[.int .i64 t1, .slice A1 t2.length c1]] W fun e w' => e = .returned (.bool false) ∧ Below W.heap.size W w' := fun W3 A3 c3 hC3 hc3 => act_Right.calls t1 A3 c3 t2 false W3 hC3 hc3 hb
  have e : (l0_1.map (rd_T27 l1)).length = l0_1.length := by simp
  unfold act_Do.g at ht
  by_cases c1 : a0_0 = 1
  · rw [if_pos c1] at ht
    subst c1
    obtain ⟨x, hx, hx2⟩ := Option.map_eq_some_iff.mp ht
    obtain rfl := Option.some.inj hx2
    have ht := hx
    refine made_1_wrong A2 l0_1.length c2 a2_0 a2_1 a2_2 a2_3 a2_4 a2_5 t1 t2 W (fun W2 hB2 => ?_) hR
    have hC2 := Kd.C_below hC hB2
    rw [← e] at hC2 hc2 ⊢
    refine (act_maker_date.calls k 1 A2 c2 _ a2_0 a2_1 a2_2 a2_3 a2_4 a2_5 t1 t2 W2 hC2 hc2 ht).mono ?_
    rintro e w' ⟨v, rfl, hR, hB⟩
    obtain ⟨A3, c3, rfl⟩ := Kd.R_slice hR
    exact ⟨A3, c3, rfl, (Kd.R_reads' hR).2.1, hR, hB⟩
  rw [if_neg c1] at ht
  by_cases c12 : a0_0 = 12
  · rw [if_pos c12] at ht
    subst c12
    refine made_12_wrong A2 l0_1.length c2 a2_0 a2_1 a2_2 a2_3 a2_4 a2_5 t1 t2 W (fun W2 hB2 => ?_) hR
    have hC2 := Kd.C_below hC hB2
    rw [← e] at hC2 hc2 ⊢
    exact act_maker_money.calls k 12 A2 c2 _ a2_0 a2_1 a2_2 a2_3 a2_4 a2_5 t1 t2 W2 hC2 hc2 ht
  rw [if_neg c12] at ht
  cases ht
theorem act_Do.dies (k : Nat) (a0_0 : Int) (l0_1 : List Int) (l1 : List (S27)) (a2_0 a2_1 a2_2 a2_3 a2_4 a2_5 : Int) (W : World) (A2 : Option Addr) (c2 : Nat) (hC : Kd.C k27 W A2 l0_1.length (l0_1.map (rd_T27 l1))) (hc2 : l0_1.length ≤ c2)
    (ht : act_Do.g k a0_0 l0_1 l1 a2_0 a2_1 a2_2 a2_3 a2_4 a2_5 = some none) :
    Calls Try.prog 41 #[.agg #[.int .i64 a0_0, .slice A2 l0_1.length c2, .int .i64 a2_0, .int .i64 a2_1, .int .i64 a2_2, .int .i64 a2_3, .int .i64 a2_4, .int .i64 a2_5]] W (Dies W) := by
  have e : (l0_1.map (rd_T27 l1)).length = l0_1.length := by simp
  unfold act_Do.g at ht
  by_cases c1 : a0_0 = 1
  · rw [if_pos c1] at ht
    subst c1
    obtain ⟨x, hx, hx2⟩ := Option.map_eq_some_iff.mp ht
    cases hx2
  rw [if_neg c1] at ht
  by_cases c12 : a0_0 = 12
  · rw [if_pos c12] at ht
    subst c12
    refine made_12_no A2 l0_1.length c2 a2_0 a2_1 a2_2 a2_3 a2_4 a2_5 W (fun W2 hB2 => ?_)
    have hC2 := Kd.C_below hC hB2
    rw [← e] at hC2 hc2 ⊢
    exact act_maker_money.dies k 12 A2 c2 _ a2_0 a2_1 a2_2 a2_3 a2_4 a2_5 W2 hC2 hc2 ht
  rw [if_neg c12] at ht
  cases ht
theorem act_Do.calls (k : Nat) (a0_0 : Int) (A0_1 : Option Addr) (c0_1 : Nat) (l0_1 : List Int) (A1 : Option Addr) (c1 : Nat) (l1 : List (S27)) (a2_0 : Int) (a2_1 : Int) (a2_2 : Int) (a2_3 : Int) (a2_4 : Int) (a2_5 : Int) (r1 : Int) (r2 : List Int) (r3 : Bool) (w : World)
    (hr0_1 : Kd.C (Kd.int .i64) w A0_1 l0_1.length l0_1) (hc0_1 : l0_1.length ≤ c0_1) (hr1 : Kd.C k27 w A1 l1.length l1) (hc1 : l1.length ≤ c1) (h : act_Do.f k a0_0 l0_1 l1 a2_0 a2_1 a2_2 a2_3 a2_4 a2_5 = some (r1, r2, r3)) :
    Calls Try.prog 22 #[.agg #[.int .i64 a0_0, .slice A0_1 l0_1.length c0_1], .slice A1 l1.length c1, .agg #[.int .i64 a2_0, .int .i64 a2_1, .int .i64 a2_2, .int .i64 a2_3, .int .i64 a2_4, .int .i64 a2_5]] w fun e w' => ∃ v1_ : Value, e = .returned (.tuple #[.agg #[.int .i64 r1, v1_], .bool r3]) ∧ Kd.R (Kd.int .i64) 3 w' w.heap.size (fun _ => True) v1_ r2 ∧ Below w.heap.size w w' := by
  unfold act_Do.f at h
  split at h
  case isFalse => cases h
  case isTrue hc =>
    obtain ⟨hl, hin, hne⟩ := hc
    obtain ⟨o, ht, h⟩ := Option.bind_eq_some_iff.mp h
    have hin' : ∀ j : Int, 0 ≤ j → j < l0_1.length → 0 ≤ rd l0_1 j ∧ rd l0_1 j < l1.length := by
      intro j h0 h1
      refine hin _ ?_
      unfold rd
      rw [List.getD_eq_getElem?_getD, List.getElem?_eq_getElem (by omega)]
      exact List.getElem_mem _
    cases o with
    | none =>
      have h := Option.some.inj h
      simp only [Prod.mk.injEq] at h
      obtain ⟨rfl, rfl, rfl⟩ := h
      refine (do_no a0_0 A0_1 c0_1 l0_1 A1 c1 l1 a2_0 a2_1 a2_2 a2_3 a2_4 a2_5 w hr0_1 hr1 hin' hne hl (fun W A2 c2 hB hC hc2 => act_Do.dies k a0_0 l0_1 l1 a2_0 a2_1 a2_2 a2_3 a2_4 a2_5 W A2 c2 hC hc2 ht)).mono ?_
      rintro e w' ⟨rfl, hB⟩
      exact ⟨_, rfl, Kd.R_nil _ _ _ _ _, hB⟩
    | some t =>
    obtain ⟨t1, t2⟩ := t
    replace h : ((act_Right.f t1 t2).bind fun b => if b = true then some (t1, t2, true) else some (0, [], false)) = some (r1, r2, r3) := h
    obtain ⟨b, hb, h⟩ := Option.bind_eq_some_iff.mp h
    split at h
    case isFalse hbt =>
      obtain rfl := Bool.eq_false_iff.mpr hbt
      have h := Option.some.inj h
      simp only [Prod.mk.injEq] at h
      obtain ⟨rfl, rfl, rfl⟩ := h
      refine (do_no a0_0 A0_1 c0_1 l0_1 A1 c1 l1 a2_0 a2_1 a2_2 a2_3 a2_4 a2_5 w hr0_1 hr1 hin' hne hl (fun W A2 c2 hB hC hc2 => act_Do.wrong k a0_0 l0_1 l1 a2_0 a2_1 a2_2 a2_3 a2_4 a2_5 t1 t2 W A2 c2 hC hc2 ht hb)).mono ?_
      rintro e w' ⟨rfl, hB⟩
      exact ⟨_, rfl, Kd.R_nil _ _ _ _ _, hB⟩
    case isTrue hbt =>
      subst hbt
      have h := Option.some.inj h
      simp only [Prod.mk.injEq] at h
      obtain ⟨rfl, rfl, rfl⟩ := h
      refine (do_ok a0_0 A0_1 c0_1 l0_1 A1 c1 l1 a2_0 a2_1 a2_2 a2_3 a2_4 a2_5 t1 t2 w hr0_1 hr1 hin' hne hl (fun W A2 c2 hB hC hc2 => act_Do.made k a0_0 l0_1 l1 a2_0 a2_1 a2_2 a2_3 a2_4 a2_5 t1 t2 W A2 c2 hC hc2 ht hb)).mono ?_
      rintro e w' ⟨A3, c3, rfl, _, hR, hB⟩
      exact ⟨_, rfl, hR, hB⟩


end Go.Proofs.Ytldfljlklfhjkaa.PE
