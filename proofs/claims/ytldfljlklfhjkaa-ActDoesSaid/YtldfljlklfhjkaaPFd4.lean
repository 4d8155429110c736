/- act's made and Do: what each method of the maker makes, they answer; written by a program of this session (wip/gen_do.py). Conditions: that the method answers. -/
import Derived.Test.YtldfljlklfhjkaaPFd1
namespace Go.Proofs.Ytldfljlklfhjkaa.PE
open Go.RowKit Go.Proofs.YtldfljlklfhjkaaW.PrintWords Go.Proofs.YtldfljlklfhjkaaW.PrintLast Go.Proofs.YtldfljlklfhjkaaW.PrintMore
set_option linter.unusedVariables false
set_option linter.unusedSimpArgs false
namespace Ev.Do
set_option maxHeartbeats 2000000 in
set_option maxRecDepth 100000 in
theorem made_11_ok (S : Sc) (A : Option Addr) (n c : Nat) (y m d h i s : Int) (k : Int) (f : List Int) (w : World)
    (hm : ∀ W, Below w.heap.size w W → w.heap.size + 2 ≤ W.heap.size → Calls Try.prog 69 #[.agg #[.int .i64 11, .slice A n c, .int .i64 y, .int .i64 m, .int .i64 d, .int .i64 h, .int .i64 i, .int .i64 s]] W (MakesS (mS S w) W k f))
    (hr : ∀ W A1 c1, SlI free W (.slice A1 f.length c1) f → Calls Try.prog 25 #[.agg #[.int .i64 k, .slice A1 f.length c1]] W fun e w' => e = .returned (.bool true) ∧ Below W.heap.size W w') :
    Calls Try.prog 41 #[.agg #[.int .i64 11, .slice A n c, .int .i64 y, .int .i64 m, .int .i64 d, .int .i64 h, .int .i64 i, .int .i64 s]] w (MakesS S w k f) := by
  have g1 := Aside0.mk hm
  have g2 := Aside0.mk hr
  clear hm hr
  have HE := Aside0.mk (Env.start w #[.int .i64 11, .slice A n c, .int .i64 y, .int .i64 m, .int .i64 d, .int .i64 h, .int .i64 i, .int .i64 s])
  have hmf : ∀ (fn : Fn) (first cap : Array Value) (w : World), (Instr.makeFunc fn first cap).run Try.prog w = .ok (.func fn first cap) w := fun _ _ _ _ => rfl
  go_enter Try.func41, Try.ntmps41
  go_wp2_with (first | (go_at_call 39; refine (act_must.calls _ _ _ rfl).mono ?_; rintro e w' ⟨rfl, ⟨nd, rfl⟩⟩) | (go_at_call 69; refine calls_any (Env w #[.int .i64 11, .slice A n c, .int .i64 y, .int .i64 m, .int .i64 d, .int .i64 h, .int .i64 i, .int .i64 s]) (by repeat (first | exact HE.out | apply Env.alloc | apply Env.drewN | apply Env.drew)) ?_; intro Wc hE; refine (g1.out _ hE.below hE.big).mono ?_; rintro e w1 ⟨A1, c1, rfl, hR, hb⟩; have HM := Aside0.mk (MEnv.mk (hE.then_ hb) hb hR); have HW := Aside0.mk hE; clear HE hE hR hb))
  have HV := Aside0.mk (MV.start (k := k) HM.out)
  clear HM
  have ht := MV.k3 (MV.drew HV.out)
  go_region_held3 (fun w' => w'.cell? ⟨w.heap.size, 0, none⟩ = some (.int .i64 11) ∧ w'.cell? ⟨w1.heap.size, 0, none⟩ = some (.int .i64 k) ∧ w'.cell? ⟨w1.heap.size, 1, none⟩ = some (.slice A1 f.length c1)) ((first | go_keep | exact MV.k3 (by repeat (first | exact HV.out | apply MV.drewN | apply MV.drew)))) (first | (go_at_call 25; refine calls_any (MV S w #[.int .i64 11, .slice A n c, .int .i64 y, .int .i64 m, .int .i64 d, .int .i64 h, .int .i64 i, .int .i64 s] Wc A1 c1 f k w1.heap.size) (by repeat (first | exact HV.out | apply MV.drewN | apply MV.drew)) ?_; intro W2 hV; refine (g2.out W2 A1 c1 (sl_free hV.m.r)).mono ?_; rintro e w2 ⟨rfl, hb⟩; have HVn := Aside0.mk (hV.then_ hb); clear HV hV hb; have HV := HVn; clear HVn) | (go_at_call 39; refine (act_must.calls true _ _ rfl).mono ?_; rintro e w3 ⟨rfl, ⟨nm, rfl⟩⟩))
  obtain ⟨r0, r1, r2, r3⟩ := Env.r2 (MV.drewN HV.out nm).m.e
  obtain ⟨s0, s1, s2⟩ := MV.k3 (MV.drewN HV.out nm)
  go_wp2_with fail
  refine bodyPost_ret (v := .agg #[.int .i64 k, .slice A1 f.length c1]) (by simp [results, Try.results41, go_sem, r0, r1, r2, r3]) rfl (MEnv.ends (MV.drewN HV.out nm).m HW.out _ _)
set_option maxHeartbeats 2000000 in
set_option maxRecDepth 100000 in
theorem made_11_wrong (S : Sc) (A : Option Addr) (n c : Nat) (y m d h i s : Int) (k : Int) (f : List Int) (w : World)
    (hm : ∀ W, Below w.heap.size w W → w.heap.size + 2 ≤ W.heap.size → Calls Try.prog 69 #[.agg #[.int .i64 11, .slice A n c, .int .i64 y, .int .i64 m, .int .i64 d, .int .i64 h, .int .i64 i, .int .i64 s]] W (MakesS (mS S w) W k f))
    (hr : ∀ W A1 c1, SlI free W (.slice A1 f.length c1) f → Calls Try.prog 25 #[.agg #[.int .i64 k, .slice A1 f.length c1]] W fun e w' => e = .returned (.bool false) ∧ Below W.heap.size W w') :
    Calls Try.prog 41 #[.agg #[.int .i64 11, .slice A n c, .int .i64 y, .int .i64 m, .int .i64 d, .int .i64 h, .int .i64 i, .int .i64 s]] w (Dies w) := by
  have g1 := Aside0.mk hm
  have g2 := Aside0.mk hr
  clear hm hr
  have HE := Aside0.mk (Env.start w #[.int .i64 11, .slice A n c, .int .i64 y, .int .i64 m, .int .i64 d, .int .i64 h, .int .i64 i, .int .i64 s])
  have hmf : ∀ (fn : Fn) (first cap : Array Value) (w : World), (Instr.makeFunc fn first cap).run Try.prog w = .ok (.func fn first cap) w := fun _ _ _ _ => rfl
  go_enter Try.func41, Try.ntmps41
  go_wp2_with (first | (go_at_call 39; refine (act_must.calls _ _ _ rfl).mono ?_; rintro e w' ⟨rfl, ⟨nd, rfl⟩⟩) | (go_at_call 69; refine calls_any (Env w #[.int .i64 11, .slice A n c, .int .i64 y, .int .i64 m, .int .i64 d, .int .i64 h, .int .i64 i, .int .i64 s]) (by repeat (first | exact HE.out | apply Env.alloc | apply Env.drewN | apply Env.drew)) ?_; intro Wc hE; refine (g1.out _ hE.below hE.big).mono ?_; rintro e w1 ⟨A1, c1, rfl, hR, hb⟩; have HM := Aside0.mk (MEnv.mk (hE.then_ hb) hb hR); have HW := Aside0.mk hE; clear HE hE hR hb))
  have HV := Aside0.mk (MV.start (k := k) HM.out)
  clear HM
  have ht := MV.k3 (MV.drew HV.out)
  go_region_held2 (fun w' => w'.cell? ⟨w.heap.size, 0, none⟩ = some (.int .i64 11) ∧ w'.cell? ⟨w1.heap.size, 0, none⟩ = some (.int .i64 k) ∧ w'.cell? ⟨w1.heap.size, 1, none⟩ = some (.slice A1 f.length c1)) ((first | exact hF.out.elim | (go_keep; done) | exact MV.k3 (by repeat (first | exact HV.out | apply MV.drewN | apply MV.drew)))) (first | (go_at_call 25; refine calls_any (MV S w #[.int .i64 11, .slice A n c, .int .i64 y, .int .i64 m, .int .i64 d, .int .i64 h, .int .i64 i, .int .i64 s] Wc A1 c1 f k w1.heap.size) (by repeat (first | exact HV.out | apply MV.drewN | apply MV.drew)) ?_; intro W2 hV; refine (g2.out W2 A1 c1 (sl_free hV.m.r)).mono ?_; rintro e w2 ⟨rfl, hb⟩; have HVn := Aside0.mk (hV.then_ hb); clear HV hV hb; have HV := HVn; clear HVn) | (go_at_call 39; refine calls_any (MV S w #[.int .i64 11, .slice A n c, .int .i64 y, .int .i64 m, .int .i64 d, .int .i64 h, .int .i64 i, .int .i64 s] Wc A1 c1 f k w1.heap.size) (by repeat (first | exact HV.out | apply MV.drewN | apply MV.drew)) ?_; intro W3 hV; refine die_or (.tuple #[]) (must_dies _ _) ?_ ?_; (rintro e w' ⟨⟨u, pv, rfl⟩, hb⟩; exact dies_end rfl hV.m.e.below hb); rintro e w' ⟨rfl, hF⟩))
  all_goals exact hF.out.elim
set_option maxHeartbeats 2000000 in
set_option maxRecDepth 100000 in
theorem made_11_no (A : Option Addr) (n c : Nat) (y m d h i s : Int) (w : World)
    (hm : ∀ W, Below w.heap.size w W → w.heap.size + 2 ≤ W.heap.size → Calls Try.prog 69 #[.agg #[.int .i64 11, .slice A n c, .int .i64 y, .int .i64 m, .int .i64 d, .int .i64 h, .int .i64 i, .int .i64 s]] W (Dies W)) :
    Calls Try.prog 41 #[.agg #[.int .i64 11, .slice A n c, .int .i64 y, .int .i64 m, .int .i64 d, .int .i64 h, .int .i64 i, .int .i64 s]] w (Dies w) := by
  have g1 := Aside0.mk hm
  clear hm
  have HE := Aside0.mk (Env.start w #[.int .i64 11, .slice A n c, .int .i64 y, .int .i64 m, .int .i64 d, .int .i64 h, .int .i64 i, .int .i64 s])
  have hmf : ∀ (fn : Fn) (first cap : Array Value) (w : World), (Instr.makeFunc fn first cap).run Try.prog w = .ok (.func fn first cap) w := fun _ _ _ _ => rfl
  go_enter Try.func41, Try.ntmps41
  go_wp2_with (first | (go_at_call 39; refine (act_must.calls _ _ _ rfl).mono ?_; rintro e w' ⟨rfl, ⟨nd, rfl⟩⟩) | (go_at_call 69; refine calls_any (Env w #[.int .i64 11, .slice A n c, .int .i64 y, .int .i64 m, .int .i64 d, .int .i64 h, .int .i64 i, .int .i64 s]) (by repeat (first | exact HE.out | apply Env.alloc | apply Env.drewN | apply Env.drew)) ?_; intro Wc hE; refine (g1.out _ hE.below hE.big).mono ?_; rintro e w1 ⟨⟨u, pv, rfl⟩, hb⟩))
  exact dies_end rfl hE.below hb
set_option maxHeartbeats 2000000 in
set_option maxRecDepth 100000 in
theorem made_12_ok (S : Sc) (A : Option Addr) (n c : Nat) (y m d h i s : Int) (k : Int) (f : List Int) (w : World)
    (hm : ∀ W, Below w.heap.size w W → w.heap.size + 2 ≤ W.heap.size → Calls Try.prog 70 #[.agg #[.int .i64 12, .slice A n c, .int .i64 y, .int .i64 m, .int .i64 d, .int .i64 h, .int .i64 i, .int .i64 s]] W (MakesS (mS S w) W k f))
    (hr : ∀ W A1 c1, SlI free W (.slice A1 f.length c1) f → Calls Try.prog 25 #[.agg #[.int .i64 k, .slice A1 f.length c1]] W fun e w' => e = .returned (.bool true) ∧ Below W.heap.size W w') :
    Calls Try.prog 41 #[.agg #[.int .i64 12, .slice A n c, .int .i64 y, .int .i64 m, .int .i64 d, .int .i64 h, .int .i64 i, .int .i64 s]] w (MakesS S w k f) := by
  have g1 := Aside0.mk hm
  have g2 := Aside0.mk hr
  clear hm hr
  have HE := Aside0.mk (Env.start w #[.int .i64 12, .slice A n c, .int .i64 y, .int .i64 m, .int .i64 d, .int .i64 h, .int .i64 i, .int .i64 s])
  have hmf : ∀ (fn : Fn) (first cap : Array Value) (w : World), (Instr.makeFunc fn first cap).run Try.prog w = .ok (.func fn first cap) w := fun _ _ _ _ => rfl
  go_enter Try.func41, Try.ntmps41
  go_wp2_with (first | (go_at_call 39; refine (act_must.calls _ _ _ rfl).mono ?_; rintro e w' ⟨rfl, ⟨nd, rfl⟩⟩) | (go_at_call 70; refine calls_any (Env w #[.int .i64 12, .slice A n c, .int .i64 y, .int .i64 m, .int .i64 d, .int .i64 h, .int .i64 i, .int .i64 s]) (by repeat (first | exact HE.out | apply Env.alloc | apply Env.drewN | apply Env.drew)) ?_; intro Wc hE; refine (g1.out _ hE.below hE.big).mono ?_; rintro e w1 ⟨A1, c1, rfl, hR, hb⟩; have HM := Aside0.mk (MEnv.mk (hE.then_ hb) hb hR); have HW := Aside0.mk hE; clear HE hE hR hb))
  have HV := Aside0.mk (MV.start (k := k) HM.out)
  clear HM
  have ht := MV.k3 (MV.drew HV.out)
  go_region_held3 (fun w' => w'.cell? ⟨w.heap.size, 0, none⟩ = some (.int .i64 12) ∧ w'.cell? ⟨w1.heap.size, 0, none⟩ = some (.int .i64 k) ∧ w'.cell? ⟨w1.heap.size, 1, none⟩ = some (.slice A1 f.length c1)) ((first | go_keep | exact MV.k3 (by repeat (first | exact HV.out | apply MV.drewN | apply MV.drew)))) (first | (go_at_call 25; refine calls_any (MV S w #[.int .i64 12, .slice A n c, .int .i64 y, .int .i64 m, .int .i64 d, .int .i64 h, .int .i64 i, .int .i64 s] Wc A1 c1 f k w1.heap.size) (by repeat (first | exact HV.out | apply MV.drewN | apply MV.drew)) ?_; intro W2 hV; refine (g2.out W2 A1 c1 (sl_free hV.m.r)).mono ?_; rintro e w2 ⟨rfl, hb⟩; have HVn := Aside0.mk (hV.then_ hb); clear HV hV hb; have HV := HVn; clear HVn) | (go_at_call 39; refine (act_must.calls true _ _ rfl).mono ?_; rintro e w3 ⟨rfl, ⟨nm, rfl⟩⟩))
  obtain ⟨r0, r1, r2, r3⟩ := Env.r2 (MV.drewN HV.out nm).m.e
  obtain ⟨s0, s1, s2⟩ := MV.k3 (MV.drewN HV.out nm)
  go_wp2_with fail
  refine bodyPost_ret (v := .agg #[.int .i64 k, .slice A1 f.length c1]) (by simp [results, Try.results41, go_sem, r0, r1, r2, r3]) rfl (MEnv.ends (MV.drewN HV.out nm).m HW.out _ _)
set_option maxHeartbeats 2000000 in
set_option maxRecDepth 100000 in
theorem made_12_wrong (S : Sc) (A : Option Addr) (n c : Nat) (y m d h i s : Int) (k : Int) (f : List Int) (w : World)
    (hm : ∀ W, Below w.heap.size w W → w.heap.size + 2 ≤ W.heap.size → Calls Try.prog 70 #[.agg #[.int .i64 12, .slice A n c, .int .i64 y, .int .i64 m, .int .i64 d, .int .i64 h, .int .i64 i, .int .i64 s]] W (MakesS (mS S w) W k f))
    (hr : ∀ W A1 c1, SlI free W (.slice A1 f.length c1) f → Calls Try.prog 25 #[.agg #[.int .i64 k, .slice A1 f.length c1]] W fun e w' => e = .returned (.bool false) ∧ Below W.heap.size W w') :
    Calls Try.prog 41 #[.agg #[.int .i64 12, .slice A n c, .int .i64 y, .int .i64 m, .int .i64 d, .int .i64 h, .int .i64 i, .int .i64 s]] w (Dies w) := by
  have g1 := Aside0.mk hm
  have g2 := Aside0.mk hr
  clear hm hr
  have HE := Aside0.mk (Env.start w #[.int .i64 12, .slice A n c, .int .i64 y, .int .i64 m, .int .i64 d, .int .i64 h, .int .i64 i, .int .i64 s])
  have hmf : ∀ (fn : Fn) (first cap : Array Value) (w : World), (Instr.makeFunc fn first cap).run Try.prog w = .ok (.func fn first cap) w := fun _ _ _ _ => rfl
  go_enter Try.func41, Try.ntmps41
  go_wp2_with (first | (go_at_call 39; refine (act_must.calls _ _ _ rfl).mono ?_; rintro e w' ⟨rfl, ⟨nd, rfl⟩⟩) | (go_at_call 70; refine calls_any (Env w #[.int .i64 12, .slice A n c, .int .i64 y, .int .i64 m, .int .i64 d, .int .i64 h, .int .i64 i, .int .i64 s]) (by repeat (first | exact HE.out | apply Env.alloc | apply Env.drewN | apply Env.drew)) ?_; intro Wc hE; refine (g1.out _ hE.below hE.big).mono ?_; rintro e w1 ⟨A1, c1, rfl, hR, hb⟩; have HM := Aside0.mk (MEnv.mk (hE.then_ hb) hb hR); have HW := Aside0.mk hE; clear HE hE hR hb))
  have HV := Aside0.mk (MV.start (k := k) HM.out)
  clear HM
  have ht := MV.k3 (MV.drew HV.out)
  go_region_held2 (fun w' => w'.cell? ⟨w.heap.size, 0, none⟩ = some (.int .i64 12) ∧ w'.cell? ⟨w1.heap.size, 0, none⟩ = some (.int .i64 k) ∧ w'.cell? ⟨w1.heap.size, 1, none⟩ = some (.slice A1 f.length c1)) ((first | exact hF.out.elim | (go_keep; done) | exact MV.k3 (by repeat (first | exact HV.out | apply MV.drewN | apply MV.drew)))) (first | (go_at_call 25; refine calls_any (MV S w #[.int .i64 12, .slice A n c, .int .i64 y, .int .i64 m, .int .i64 d, .int .i64 h, .int .i64 i, .int .i64 s] Wc A1 c1 f k w1.heap.size) (by repeat (first | exact HV.out | apply MV.drewN | apply MV.drew)) ?_; intro W2 hV; refine (g2.out W2 A1 c1 (sl_free hV.m.r)).mono ?_; rintro e w2 ⟨rfl, hb⟩; have HVn := Aside0.mk (hV.then_ hb); clear HV hV hb; have HV := HVn; clear HVn) | (go_at_call 39; refine calls_any (MV S w #[.int .i64 12, .slice A n c, .int .i64 y, .int .i64 m, .int .i64 d, .int .i64 h, .int .i64 i, .int .i64 s] Wc A1 c1 f k w1.heap.size) (by repeat (first | exact HV.out | apply MV.drewN | apply MV.drew)) ?_; intro W3 hV; refine die_or (.tuple #[]) (must_dies _ _) ?_ ?_; (rintro e w' ⟨⟨u, pv, rfl⟩, hb⟩; exact dies_end rfl hV.m.e.below hb); rintro e w' ⟨rfl, hF⟩))
  all_goals exact hF.out.elim
set_option maxHeartbeats 2000000 in
set_option maxRecDepth 100000 in
theorem made_12_no (A : Option Addr) (n c : Nat) (y m d h i s : Int) (w : World)
    (hm : ∀ W, Below w.heap.size w W → w.heap.size + 2 ≤ W.heap.size → Calls Try.prog 70 #[.agg #[.int .i64 12, .slice A n c, .int .i64 y, .int .i64 m, .int .i64 d, .int .i64 h, .int .i64 i, .int .i64 s]] W (Dies W)) :
    Calls Try.prog 41 #[.agg #[.int .i64 12, .slice A n c, .int .i64 y, .int .i64 m, .int .i64 d, .int .i64 h, .int .i64 i, .int .i64 s]] w (Dies w) := by
  have g1 := Aside0.mk hm
  clear hm
  have HE := Aside0.mk (Env.start w #[.int .i64 12, .slice A n c, .int .i64 y, .int .i64 m, .int .i64 d, .int .i64 h, .int .i64 i, .int .i64 s])
  have hmf : ∀ (fn : Fn) (first cap : Array Value) (w : World), (Instr.makeFunc fn first cap).run Try.prog w = .ok (.func fn first cap) w := fun _ _ _ _ => rfl
  go_enter Try.func41, Try.ntmps41
  go_wp2_with (first | (go_at_call 39; refine (act_must.calls _ _ _ rfl).mono ?_; rintro e w' ⟨rfl, ⟨nd, rfl⟩⟩) | (go_at_call 70; refine calls_any (Env w #[.int .i64 12, .slice A n c, .int .i64 y, .int .i64 m, .int .i64 d, .int .i64 h, .int .i64 i, .int .i64 s]) (by repeat (first | exact HE.out | apply Env.alloc | apply Env.drewN | apply Env.drew)) ?_; intro Wc hE; refine (g1.out _ hE.below hE.big).mono ?_; rintro e w1 ⟨⟨u, pv, rfl⟩, hb⟩))
  exact dies_end rfl hE.below hb
set_option maxHeartbeats 2000000 in
set_option maxRecDepth 100000 in
theorem made_13_ok (S : Sc) (A : Option Addr) (n c : Nat) (y m d h i s : Int) (k : Int) (f : List Int) (w : World)
    (hm : ∀ W, Below w.heap.size w W → w.heap.size + 2 ≤ W.heap.size → Calls Try.prog 71 #[.agg #[.int .i64 13, .slice A n c, .int .i64 y, .int .i64 m, .int .i64 d, .int .i64 h, .int .i64 i, .int .i64 s]] W (MakesS (mS S w) W k f))
    (hr : ∀ W A1 c1, SlI free W (.slice A1 f.length c1) f → Calls Try.prog 25 #[.agg #[.int .i64 k, .slice A1 f.length c1]] W fun e w' => e = .returned (.bool true) ∧ Below W.heap.size W w') :
    Calls Try.prog 41 #[.agg #[.int .i64 13, .slice A n c, .int .i64 y, .int .i64 m, .int .i64 d, .int .i64 h, .int .i64 i, .int .i64 s]] w (MakesS S w k f) := by
  have g1 := Aside0.mk hm
  have g2 := Aside0.mk hr
  clear hm hr
  have HE := Aside0.mk (Env.start w #[.int .i64 13, .slice A n c, .int .i64 y, .int .i64 m, .int .i64 d, .int .i64 h, .int .i64 i, .int .i64 s])
  have hmf : ∀ (fn : Fn) (first cap : Array Value) (w : World), (Instr.makeFunc fn first cap).run Try.prog w = .ok (.func fn first cap) w := fun _ _ _ _ => rfl
  go_enter Try.func41, Try.ntmps41
  go_wp2_with (first | (go_at_call 39; refine (act_must.calls _ _ _ rfl).mono ?_; rintro e w' ⟨rfl, ⟨nd, rfl⟩⟩) | (go_at_call 71; refine calls_any (Env w #[.int .i64 13, .slice A n c, .int .i64 y, .int .i64 m, .int .i64 d, .int .i64 h, .int .i64 i, .int .i64 s]) (by repeat (first | exact HE.out | apply Env.alloc | apply Env.drewN | apply Env.drew)) ?_; intro Wc hE; refine (g1.out _ hE.below hE.big).mono ?_; rintro e w1 ⟨A1, c1, rfl, hR, hb⟩; have HM := Aside0.mk (MEnv.mk (hE.then_ hb) hb hR); have HW := Aside0.mk hE; clear HE hE hR hb))
  have HV := Aside0.mk (MV.start (k := k) HM.out)
  clear HM
  have ht := MV.k3 (MV.drew HV.out)
  go_region_held3 (fun w' => w'.cell? ⟨w.heap.size, 0, none⟩ = some (.int .i64 13) ∧ w'.cell? ⟨w1.heap.size, 0, none⟩ = some (.int .i64 k) ∧ w'.cell? ⟨w1.heap.size, 1, none⟩ = some (.slice A1 f.length c1)) ((first | go_keep | exact MV.k3 (by repeat (first | exact HV.out | apply MV.drewN | apply MV.drew)))) (first | (go_at_call 25; refine calls_any (MV S w #[.int .i64 13, .slice A n c, .int .i64 y, .int .i64 m, .int .i64 d, .int .i64 h, .int .i64 i, .int .i64 s] Wc A1 c1 f k w1.heap.size) (by repeat (first | exact HV.out | apply MV.drewN | apply MV.drew)) ?_; intro W2 hV; refine (g2.out W2 A1 c1 (sl_free hV.m.r)).mono ?_; rintro e w2 ⟨rfl, hb⟩; have HVn := Aside0.mk (hV.then_ hb); clear HV hV hb; have HV := HVn; clear HVn) | (go_at_call 39; refine (act_must.calls true _ _ rfl).mono ?_; rintro e w3 ⟨rfl, ⟨nm, rfl⟩⟩))
  obtain ⟨r0, r1, r2, r3⟩ := Env.r2 (MV.drewN HV.out nm).m.e
  obtain ⟨s0, s1, s2⟩ := MV.k3 (MV.drewN HV.out nm)
  go_wp2_with fail
  refine bodyPost_ret (v := .agg #[.int .i64 k, .slice A1 f.length c1]) (by simp [results, Try.results41, go_sem, r0, r1, r2, r3]) rfl (MEnv.ends (MV.drewN HV.out nm).m HW.out _ _)
set_option maxHeartbeats 2000000 in
set_option maxRecDepth 100000 in
theorem made_13_wrong (S : Sc) (A : Option Addr) (n c : Nat) (y m d h i s : Int) (k : Int) (f : List Int) (w : World)
    (hm : ∀ W, Below w.heap.size w W → w.heap.size + 2 ≤ W.heap.size → Calls Try.prog 71 #[.agg #[.int .i64 13, .slice A n c, .int .i64 y, .int .i64 m, .int .i64 d, .int .i64 h, .int .i64 i, .int .i64 s]] W (MakesS (mS S w) W k f))
    (hr : ∀ W A1 c1, SlI free W (.slice A1 f.length c1) f → Calls Try.prog 25 #[.agg #[.int .i64 k, .slice A1 f.length c1]] W fun e w' => e = .returned (.bool false) ∧ Below W.heap.size W w') :
    Calls Try.prog 41 #[.agg #[.int .i64 13, .slice A n c, .int .i64 y, .int .i64 m, .int .i64 d, .int .i64 h, .int .i64 i, .int .i64 s]] w (Dies w) := by
  have g1 := Aside0.mk hm
  have g2 := Aside0.mk hr
  clear hm hr
  have HE := Aside0.mk (Env.start w #[.int .i64 13, .slice A n c, .int .i64 y, .int .i64 m, .int .i64 d, .int .i64 h, .int .i64 i, .int .i64 s])
  have hmf : ∀ (fn : Fn) (first cap : Array Value) (w : World), (Instr.makeFunc fn first cap).run Try.prog w = .ok (.func fn first cap) w := fun _ _ _ _ => rfl
  go_enter Try.func41, Try.ntmps41
  go_wp2_with (first | (go_at_call 39; refine (act_must.calls _ _ _ rfl).mono ?_; rintro e w' ⟨rfl, ⟨nd, rfl⟩⟩) | (go_at_call 71; refine calls_any (Env w #[.int .i64 13, .slice A n c, .int .i64 y, .int .i64 m, .int .i64 d, .int .i64 h, .int .i64 i, .int .i64 s]) (by repeat (first | exact HE.out | apply Env.alloc | apply Env.drewN | apply Env.drew)) ?_; intro Wc hE; refine (g1.out _ hE.below hE.big).mono ?_; rintro e w1 ⟨A1, c1, rfl, hR, hb⟩; have HM := Aside0.mk (MEnv.mk (hE.then_ hb) hb hR); have HW := Aside0.mk hE; clear HE hE hR hb))
  have HV := Aside0.mk (MV.start (k := k) HM.out)
  clear HM
  have ht := MV.k3 (MV.drew HV.out)
  go_region_held2 (fun w' => w'.cell? ⟨w.heap.size, 0, none⟩ = some (.int .i64 13) ∧ w'.cell? ⟨w1.heap.size, 0, none⟩ = some (.int .i64 k) ∧ w'.cell? ⟨w1.heap.size, 1, none⟩ = some (.slice A1 f.length c1)) ((first | exact hF.out.elim | (go_keep; done) | exact MV.k3 (by repeat (first | exact HV.out | apply MV.drewN | apply MV.drew)))) (first | (go_at_call 25; refine calls_any (MV S w #[.int .i64 13, .slice A n c, .int .i64 y, .int .i64 m, .int .i64 d, .int .i64 h, .int .i64 i, .int .i64 s] Wc A1 c1 f k w1.heap.size) (by repeat (first | exact HV.out | apply MV.drewN | apply MV.drew)) ?_; intro W2 hV; refine (g2.out W2 A1 c1 (sl_free hV.m.r)).mono ?_; rintro e w2 ⟨rfl, hb⟩; have HVn := Aside0.mk (hV.then_ hb); clear HV hV hb; have HV := HVn; clear HVn) | (go_at_call 39; refine calls_any (MV S w #[.int .i64 13, .slice A n c, .int .i64 y, .int .i64 m, .int .i64 d, .int .i64 h, .int .i64 i, .int .i64 s] Wc A1 c1 f k w1.heap.size) (by repeat (first | exact HV.out | apply MV.drewN | apply MV.drew)) ?_; intro W3 hV; refine die_or (.tuple #[]) (must_dies _ _) ?_ ?_; (rintro e w' ⟨⟨u, pv, rfl⟩, hb⟩; exact dies_end rfl hV.m.e.below hb); rintro e w' ⟨rfl, hF⟩))
  all_goals exact hF.out.elim
set_option maxHeartbeats 2000000 in
set_option maxRecDepth 100000 in
theorem made_13_no (A : Option Addr) (n c : Nat) (y m d h i s : Int) (w : World)
    (hm : ∀ W, Below w.heap.size w W → w.heap.size + 2 ≤ W.heap.size → Calls Try.prog 71 #[.agg #[.int .i64 13, .slice A n c, .int .i64 y, .int .i64 m, .int .i64 d, .int .i64 h, .int .i64 i, .int .i64 s]] W (Dies W)) :
    Calls Try.prog 41 #[.agg #[.int .i64 13, .slice A n c, .int .i64 y, .int .i64 m, .int .i64 d, .int .i64 h, .int .i64 i, .int .i64 s]] w (Dies w) := by
  have g1 := Aside0.mk hm
  clear hm
  have HE := Aside0.mk (Env.start w #[.int .i64 13, .slice A n c, .int .i64 y, .int .i64 m, .int .i64 d, .int .i64 h, .int .i64 i, .int .i64 s])
  have hmf : ∀ (fn : Fn) (first cap : Array Value) (w : World), (Instr.makeFunc fn first cap).run Try.prog w = .ok (.func fn first cap) w := fun _ _ _ _ => rfl
  go_enter Try.func41, Try.ntmps41
  go_wp2_with (first | (go_at_call 39; refine (act_must.calls _ _ _ rfl).mono ?_; rintro e w' ⟨rfl, ⟨nd, rfl⟩⟩) | (go_at_call 71; refine calls_any (Env w #[.int .i64 13, .slice A n c, .int .i64 y, .int .i64 m, .int .i64 d, .int .i64 h, .int .i64 i, .int .i64 s]) (by repeat (first | exact HE.out | apply Env.alloc | apply Env.drewN | apply Env.drew)) ?_; intro Wc hE; refine (g1.out _ hE.below hE.big).mono ?_; rintro e w1 ⟨⟨u, pv, rfl⟩, hb⟩))
  exact dies_end rfl hE.below hb
set_option maxHeartbeats 2000000 in
set_option maxRecDepth 100000 in
theorem made_14_ok (S : Sc) (A : Option Addr) (n c : Nat) (y m d h i s : Int) (k : Int) (f : List Int) (w : World)
    (hm : ∀ W, Below w.heap.size w W → w.heap.size + 2 ≤ W.heap.size → Calls Try.prog 72 #[.agg #[.int .i64 14, .slice A n c, .int .i64 y, .int .i64 m, .int .i64 d, .int .i64 h, .int .i64 i, .int .i64 s]] W (MakesS (mS S w) W k f))
    (hr : ∀ W A1 c1, SlI free W (.slice A1 f.length c1) f → Calls Try.prog 25 #[.agg #[.int .i64 k, .slice A1 f.length c1]] W fun e w' => e = .returned (.bool true) ∧ Below W.heap.size W w') :
    Calls Try.prog 41 #[.agg #[.int .i64 14, .slice A n c, .int .i64 y, .int .i64 m, .int .i64 d, .int .i64 h, .int .i64 i, .int .i64 s]] w (MakesS S w k f) := by
  have g1 := Aside0.mk hm
  have g2 := Aside0.mk hr
  clear hm hr
  have HE := Aside0.mk (Env.start w #[.int .i64 14, .slice A n c, .int .i64 y, .int .i64 m, .int .i64 d, .int .i64 h, .int .i64 i, .int .i64 s])
  have hmf : ∀ (fn : Fn) (first cap : Array Value) (w : World), (Instr.makeFunc fn first cap).run Try.prog w = .ok (.func fn first cap) w := fun _ _ _ _ => rfl
  go_enter Try.func41, Try.ntmps41
  go_wp2_with (first | (go_at_call 39; refine (act_must.calls _ _ _ rfl).mono ?_; rintro e w' ⟨rfl, ⟨nd, rfl⟩⟩) | (go_at_call 72; refine calls_any (Env w #[.int .i64 14, .slice A n c, .int .i64 y, .int .i64 m, .int .i64 d, .int .i64 h, .int .i64 i, .int .i64 s]) (by repeat (first | exact HE.out | apply Env.alloc | apply Env.drewN | apply Env.drew)) ?_; intro Wc hE; refine (g1.out _ hE.below hE.big).mono ?_; rintro e w1 ⟨A1, c1, rfl, hR, hb⟩; have HM := Aside0.mk (MEnv.mk (hE.then_ hb) hb hR); have HW := Aside0.mk hE; clear HE hE hR hb))
  have HV := Aside0.mk (MV.start (k := k) HM.out)
  clear HM
  have ht := MV.k3 (MV.drew HV.out)
  go_region_held3 (fun w' => w'.cell? ⟨w.heap.size, 0, none⟩ = some (.int .i64 14) ∧ w'.cell? ⟨w1.heap.size, 0, none⟩ = some (.int .i64 k) ∧ w'.cell? ⟨w1.heap.size, 1, none⟩ = some (.slice A1 f.length c1)) ((first | go_keep | exact MV.k3 (by repeat (first | exact HV.out | apply MV.drewN | apply MV.drew)))) (first | (go_at_call 25; refine calls_any (MV S w #[.int .i64 14, .slice A n c, .int .i64 y, .int .i64 m, .int .i64 d, .int .i64 h, .int .i64 i, .int .i64 s] Wc A1 c1 f k w1.heap.size) (by repeat (first | exact HV.out | apply MV.drewN | apply MV.drew)) ?_; intro W2 hV; refine (g2.out W2 A1 c1 (sl_free hV.m.r)).mono ?_; rintro e w2 ⟨rfl, hb⟩; have HVn := Aside0.mk (hV.then_ hb); clear HV hV hb; have HV := HVn; clear HVn) | (go_at_call 39; refine (act_must.calls true _ _ rfl).mono ?_; rintro e w3 ⟨rfl, ⟨nm, rfl⟩⟩))
  obtain ⟨r0, r1, r2, r3⟩ := Env.r2 (MV.drewN HV.out nm).m.e
  obtain ⟨s0, s1, s2⟩ := MV.k3 (MV.drewN HV.out nm)
  go_wp2_with fail
  refine bodyPost_ret (v := .agg #[.int .i64 k, .slice A1 f.length c1]) (by simp [results, Try.results41, go_sem, r0, r1, r2, r3]) rfl (MEnv.ends (MV.drewN HV.out nm).m HW.out _ _)
set_option maxHeartbeats 2000000 in
set_option maxRecDepth 100000 in
theorem made_14_wrong (S : Sc) (A : Option Addr) (n c : Nat) (y m d h i s : Int) (k : Int) (f : List Int) (w : World)
    (hm : ∀ W, Below w.heap.size w W → w.heap.size + 2 ≤ W.heap.size → Calls Try.prog 72 #[.agg #[.int .i64 14, .slice A n c, .int .i64 y, .int .i64 m, .int .i64 d, .int .i64 h, .int .i64 i, .int .i64 s]] W (MakesS (mS S w) W k f))
    (hr : ∀ W A1 c1, SlI free W (.slice A1 f.length c1) f → Calls Try.prog 25 #[.agg #[.int .i64 k, .slice A1 f.length c1]] W fun e w' => e = .returned (.bool false) ∧ Below W.heap.size W w') :
    Calls Try.prog 41 #[.agg #[.int .i64 14, .slice A n c, .int .i64 y, .int .i64 m, .int .i64 d, .int .i64 h, .int .i64 i, .int .i64 s]] w (Dies w) := by
  have g1 := Aside0.mk hm
  have g2 := Aside0.mk hr
  clear hm hr
  have HE := Aside0.mk (Env.start w #[.int .i64 14, .slice A n c, .int .i64 y, .int .i64 m, .int .i64 d, .int .i64 h, .int .i64 i, .int .i64 s])
  have hmf : ∀ (fn : Fn) (first cap : Array Value) (w : World), (Instr.makeFunc fn first cap).run Try.prog w = .ok (.func fn first cap) w := fun _ _ _ _ => rfl
  go_enter Try.func41, Try.ntmps41
  go_wp2_with (first | (go_at_call 39; refine (act_must.calls _ _ _ rfl).mono ?_; rintro e w' ⟨rfl, ⟨nd, rfl⟩⟩) | (go_at_call 72; refine calls_any (Env w #[.int .i64 14, .slice A n c, .int .i64 y, .int .i64 m, .int .i64 d, .int .i64 h, .int .i64 i, .int .i64 s]) (by repeat (first | exact HE.out | apply Env.alloc | apply Env.drewN | apply Env.drew)) ?_; intro Wc hE; refine (g1.out _ hE.below hE.big).mono ?_; rintro e w1 ⟨A1, c1, rfl, hR, hb⟩; have HM := Aside0.mk (MEnv.mk (hE.then_ hb) hb hR); have HW := Aside0.mk hE; clear HE hE hR hb))
  have HV := Aside0.mk (MV.start (k := k) HM.out)
  clear HM
  have ht := MV.k3 (MV.drew HV.out)
  go_region_held2 (fun w' => w'.cell? ⟨w.heap.size, 0, none⟩ = some (.int .i64 14) ∧ w'.cell? ⟨w1.heap.size, 0, none⟩ = some (.int .i64 k) ∧ w'.cell? ⟨w1.heap.size, 1, none⟩ = some (.slice A1 f.length c1)) ((first | exact hF.out.elim | (go_keep; done) | exact MV.k3 (by repeat (first | exact HV.out | apply MV.drewN | apply MV.drew)))) (first | (go_at_call 25; refine calls_any (MV S w #[.int .i64 14, .slice A n c, .int .i64 y, .int .i64 m, .int .i64 d, .int .i64 h, .int .i64 i, .int .i64 s] Wc A1 c1 f k w1.heap.size) (by repeat (first | exact HV.out | apply MV.drewN | apply MV.drew)) ?_; intro W2 hV; refine (g2.out W2 A1 c1 (sl_free hV.m.r)).mono ?_; rintro e w2 ⟨rfl, hb⟩; have HVn := Aside0.mk (hV.then_ hb); clear HV hV hb; have HV := HVn; clear HVn) | (go_at_call 39; refine calls_any (MV S w #[.int .i64 14, .slice A n c, .int .i64 y, .int .i64 m, .int .i64 d, .int .i64 h, .int .i64 i, .int .i64 s] Wc A1 c1 f k w1.heap.size) (by repeat (first | exact HV.out | apply MV.drewN | apply MV.drew)) ?_; intro W3 hV; refine die_or (.tuple #[]) (must_dies _ _) ?_ ?_; (rintro e w' ⟨⟨u, pv, rfl⟩, hb⟩; exact dies_end rfl hV.m.e.below hb); rintro e w' ⟨rfl, hF⟩))
  all_goals exact hF.out.elim
set_option maxHeartbeats 2000000 in
set_option maxRecDepth 100000 in
theorem made_14_no (A : Option Addr) (n c : Nat) (y m d h i s : Int) (w : World)
    (hm : ∀ W, Below w.heap.size w W → w.heap.size + 2 ≤ W.heap.size → Calls Try.prog 72 #[.agg #[.int .i64 14, .slice A n c, .int .i64 y, .int .i64 m, .int .i64 d, .int .i64 h, .int .i64 i, .int .i64 s]] W (Dies W)) :
    Calls Try.prog 41 #[.agg #[.int .i64 14, .slice A n c, .int .i64 y, .int .i64 m, .int .i64 d, .int .i64 h, .int .i64 i, .int .i64 s]] w (Dies w) := by
  have g1 := Aside0.mk hm
  clear hm
  have HE := Aside0.mk (Env.start w #[.int .i64 14, .slice A n c, .int .i64 y, .int .i64 m, .int .i64 d, .int .i64 h, .int .i64 i, .int .i64 s])
  have hmf : ∀ (fn : Fn) (first cap : Array Value) (w : World), (Instr.makeFunc fn first cap).run Try.prog w = .ok (.func fn first cap) w := fun _ _ _ _ => rfl
  go_enter Try.func41, Try.ntmps41
  go_wp2_with (first | (go_at_call 39; refine (act_must.calls _ _ _ rfl).mono ?_; rintro e w' ⟨rfl, ⟨nd, rfl⟩⟩) | (go_at_call 72; refine calls_any (Env w #[.int .i64 14, .slice A n c, .int .i64 y, .int .i64 m, .int .i64 d, .int .i64 h, .int .i64 i, .int .i64 s]) (by repeat (first | exact HE.out | apply Env.alloc | apply Env.drewN | apply Env.drew)) ?_; intro Wc hE; refine (g1.out _ hE.below hE.big).mono ?_; rintro e w1 ⟨⟨u, pv, rfl⟩, hb⟩))
  exact dies_end rfl hE.below hb
set_option maxHeartbeats 2000000 in
set_option maxRecDepth 100000 in
theorem made_15_ok (S : Sc) (A : Option Addr) (n c : Nat) (y m d h i s : Int) (k : Int) (f : List Int) (w : World)
    (hm : ∀ W, Below w.heap.size w W → w.heap.size + 2 ≤ W.heap.size → Calls Try.prog 73 #[.agg #[.int .i64 15, .slice A n c, .int .i64 y, .int .i64 m, .int .i64 d, .int .i64 h, .int .i64 i, .int .i64 s]] W (MakesS (mS S w) W k f))
    (hr : ∀ W A1 c1, SlI free W (.slice A1 f.length c1) f → Calls Try.prog 25 #[.agg #[.int .i64 k, .slice A1 f.length c1]] W fun e w' => e = .returned (.bool true) ∧ Below W.heap.size W w') :
    Calls Try.prog 41 #[.agg #[.int .i64 15, .slice A n c, .int .i64 y, .int .i64 m, .int .i64 d, .int .i64 h, .int .i64 i, .int .i64 s]] w (MakesS S w k f) := by
  have g1 := Aside0.mk hm
  have g2 := Aside0.mk hr
  clear hm hr
  have HE := Aside0.mk (Env.start w #[.int .i64 15, .slice A n c, .int .i64 y, .int .i64 m, .int .i64 d, .int .i64 h, .int .i64 i, .int .i64 s])
  have hmf : ∀ (fn : Fn) (first cap : Array Value) (w : World), (Instr.makeFunc fn first cap).run Try.prog w = .ok (.func fn first cap) w := fun _ _ _ _ => rfl
  go_enter Try.func41, Try.ntmps41
  go_wp2_with (first | (go_at_call 39; refine (act_must.calls _ _ _ rfl).mono ?_; rintro e w' ⟨rfl, ⟨nd, rfl⟩⟩) | (go_at_call 73; refine calls_any (Env w #[.int .i64 15, .slice A n c, .int .i64 y, .int .i64 m, .int .i64 d, .int .i64 h, .int .i64 i, .int .i64 s]) (by repeat (first | exact HE.out | apply Env.alloc | apply Env.drewN | apply Env.drew)) ?_; intro Wc hE; refine (g1.out _ hE.below hE.big).mono ?_; rintro e w1 ⟨A1, c1, rfl, hR, hb⟩; have HM := Aside0.mk (MEnv.mk (hE.then_ hb) hb hR); have HW := Aside0.mk hE; clear HE hE hR hb))
  have HV := Aside0.mk (MV.start (k := k) HM.out)
  clear HM
  have ht := MV.k3 (MV.drew HV.out)
  go_region_held3 (fun w' => w'.cell? ⟨w.heap.size, 0, none⟩ = some (.int .i64 15) ∧ w'.cell? ⟨w1.heap.size, 0, none⟩ = some (.int .i64 k) ∧ w'.cell? ⟨w1.heap.size, 1, none⟩ = some (.slice A1 f.length c1)) ((first | go_keep | exact MV.k3 (by repeat (first | exact HV.out | apply MV.drewN | apply MV.drew)))) (first | (go_at_call 25; refine calls_any (MV S w #[.int .i64 15, .slice A n c, .int .i64 y, .int .i64 m, .int .i64 d, .int .i64 h, .int .i64 i, .int .i64 s] Wc A1 c1 f k w1.heap.size) (by repeat (first | exact HV.out | apply MV.drewN | apply MV.drew)) ?_; intro W2 hV; refine (g2.out W2 A1 c1 (sl_free hV.m.r)).mono ?_; rintro e w2 ⟨rfl, hb⟩; have HVn := Aside0.mk (hV.then_ hb); clear HV hV hb; have HV := HVn; clear HVn) | (go_at_call 39; refine (act_must.calls true _ _ rfl).mono ?_; rintro e w3 ⟨rfl, ⟨nm, rfl⟩⟩))
  obtain ⟨r0, r1, r2, r3⟩ := Env.r2 (MV.drewN HV.out nm).m.e
  obtain ⟨s0, s1, s2⟩ := MV.k3 (MV.drewN HV.out nm)
  go_wp2_with fail
  refine bodyPost_ret (v := .agg #[.int .i64 k, .slice A1 f.length c1]) (by simp [results, Try.results41, go_sem, r0, r1, r2, r3]) rfl (MEnv.ends (MV.drewN HV.out nm).m HW.out _ _)
set_option maxHeartbeats 2000000 in
set_option maxRecDepth 100000 in
theorem made_15_wrong (S : Sc) (A : Option Addr) (n c : Nat) (y m d h i s : Int) (k : Int) (f : List Int) (w : World)
    (hm : ∀ W, Below w.heap.size w W → w.heap.size + 2 ≤ W.heap.size → Calls Try.prog 73 #[.agg #[.int .i64 15, .slice A n c, .int .i64 y, .int .i64 m, .int .i64 d, .int .i64 h, .int .i64 i, .int .i64 s]] W (MakesS (mS S w) W k f))
    (hr : ∀ W A1 c1, SlI free W (.slice A1 f.length c1) f → Calls Try.prog 25 #[.agg #[.int .i64 k, .slice A1 f.length c1]] W fun e w' => e = .returned (.bool false) ∧ Below W.heap.size W w') :
    Calls Try.prog 41 #[.agg #[.int .i64 15, .slice A n c, .int .i64 y, .int .i64 m, .int .i64 d, .int .i64 h, .int .i64 i, .int .i64 s]] w (Dies w) := by
  have g1 := Aside0.mk hm
  have g2 := Aside0.mk hr
  clear hm hr
  have HE := Aside0.mk (Env.start w #[.int .i64 15, .slice A n c, .int .i64 y, .int .i64 m, .int .i64 d, .int .i64 h, .int .i64 i, .int .i64 s])
  have hmf : ∀ (fn : Fn) (first cap : Array Value) (w : World), (Instr.makeFunc fn first cap).run Try.prog w = .ok (.func fn first cap) w := fun _ _ _ _ => rfl
  go_enter Try.func41, Try.ntmps41
  go_wp2_with (first | (go_at_call 39; refine (act_must.calls _ _ _ rfl).mono ?_; rintro e w' ⟨rfl, ⟨nd, rfl⟩⟩) | (go_at_call 73; refine calls_any (Env w #[.int .i64 15, .slice A n c, .int .i64 y, .int .i64 m, .int .i64 d, .int .i64 h, .int .i64 i, .int .i64 s]) (by repeat (first | exact HE.out | apply Env.alloc | apply Env.drewN | apply Env.drew)) ?_; intro Wc hE; refine (g1.out _ hE.below hE.big).mono ?_; rintro e w1 ⟨A1, c1, rfl, hR, hb⟩; have HM := Aside0.mk (MEnv.mk (hE.then_ hb) hb hR); have HW := Aside0.mk hE; clear HE hE hR hb))
  have HV := Aside0.mk (MV.start (k := k) HM.out)
  clear HM
  have ht := MV.k3 (MV.drew HV.out)
  go_region_held2 (fun w' => w'.cell? ⟨w.heap.size, 0, none⟩ = some (.int .i64 15) ∧ w'.cell? ⟨w1.heap.size, 0, none⟩ = some (.int .i64 k) ∧ w'.cell? ⟨w1.heap.size, 1, none⟩ = some (.slice A1 f.length c1)) ((first | exact hF.out.elim | (go_keep; done) | exact MV.k3 (by repeat (first | exact HV.out | apply MV.drewN | apply MV.drew)))) (first | (go_at_call 25; refine calls_any (MV S w #[.int .i64 15, .slice A n c, .int .i64 y, .int .i64 m, .int .i64 d, .int .i64 h, .int .i64 i, .int .i64 s] Wc A1 c1 f k w1.heap.size) (by repeat (first | exact HV.out | apply MV.drewN | apply MV.drew)) ?_; intro W2 hV; refine (g2.out W2 A1 c1 (sl_free hV.m.r)).mono ?_; rintro e w2 ⟨rfl, hb⟩; have HVn := Aside0.mk (hV.then_ hb); clear HV hV hb; have HV := HVn; clear HVn) | (go_at_call 39; refine calls_any (MV S w #[.int .i64 15, .slice A n c, .int .i64 y, .int .i64 m, .int .i64 d, .int .i64 h, .int .i64 i, .int .i64 s] Wc A1 c1 f k w1.heap.size) (by repeat (first | exact HV.out | apply MV.drewN | apply MV.drew)) ?_; intro W3 hV; refine die_or (.tuple #[]) (must_dies _ _) ?_ ?_; (rintro e w' ⟨⟨u, pv, rfl⟩, hb⟩; exact dies_end rfl hV.m.e.below hb); rintro e w' ⟨rfl, hF⟩))
  all_goals exact hF.out.elim
set_option maxHeartbeats 2000000 in
set_option maxRecDepth 100000 in
theorem made_15_no (A : Option Addr) (n c : Nat) (y m d h i s : Int) (w : World)
    (hm : ∀ W, Below w.heap.size w W → w.heap.size + 2 ≤ W.heap.size → Calls Try.prog 73 #[.agg #[.int .i64 15, .slice A n c, .int .i64 y, .int .i64 m, .int .i64 d, .int .i64 h, .int .i64 i, .int .i64 s]] W (Dies W)) :
    Calls Try.prog 41 #[.agg #[.int .i64 15, .slice A n c, .int .i64 y, .int .i64 m, .int .i64 d, .int .i64 h, .int .i64 i, .int .i64 s]] w (Dies w) := by
  have g1 := Aside0.mk hm
  clear hm
  have HE := Aside0.mk (Env.start w #[.int .i64 15, .slice A n c, .int .i64 y, .int .i64 m, .int .i64 d, .int .i64 h, .int .i64 i, .int .i64 s])
  have hmf : ∀ (fn : Fn) (first cap : Array Value) (w : World), (Instr.makeFunc fn first cap).run Try.prog w = .ok (.func fn first cap) w := fun _ _ _ _ => rfl
  go_enter Try.func41, Try.ntmps41
  go_wp2_with (first | (go_at_call 39; refine (act_must.calls _ _ _ rfl).mono ?_; rintro e w' ⟨rfl, ⟨nd, rfl⟩⟩) | (go_at_call 73; refine calls_any (Env w #[.int .i64 15, .slice A n c, .int .i64 y, .int .i64 m, .int .i64 d, .int .i64 h, .int .i64 i, .int .i64 s]) (by repeat (first | exact HE.out | apply Env.alloc | apply Env.drewN | apply Env.drew)) ?_; intro Wc hE; refine (g1.out _ hE.below hE.big).mono ?_; rintro e w1 ⟨⟨u, pv, rfl⟩, hb⟩))
  exact dies_end rfl hE.below hb
end Ev.Do
end Go.Proofs.Ytldfljlklfhjkaa.PE
