/- act's made and Do: what each method of the maker makes, they answer; written by a program of this session (wip/gen_do.py). Conditions: that the method answers. -/
import Derived.Test.YtldfljlklfhjkaaPFt5
import Derived.Test.YtldfljlklfhjkaaPFd2
import Derived.Test.YtldfljlklfhjkaaPFd3
import Derived.Test.YtldfljlklfhjkaaPFd4
namespace Go.Proofs.Ytldfljlklfhjkaa.PE
open Go.RowKit Go.Proofs.YtldfljlklfhjkaaW.PrintWords Go.Proofs.YtldfljlklfhjkaaW.PrintLast Go.Proofs.YtldfljlklfhjkaaW.PrintMore
set_option linter.unusedVariables false
set_option linter.unusedSimpArgs false
namespace Ev.Do
theorem dS_lt {S : Sc} {w W : World} (hS : ∀ b, S.bad b → b < w.heap.size) (hz : w.heap.size + 5 ≤ W.heap.size) : ∀ b, (dS S w).bad b → b < W.heap.size := fun b hbad => by
  have hbad : S.bad b ∨ (w.heap.size ≤ b ∧ b < w.heap.size + 5) := hbad
  rcases hbad with hbad | hbad
  · have := hS b hbad; omega
  · omega
theorem value_okS (S : Sc) (k : Int) (v : Value) (f : List Int) (W : World) (hv : SlI S W v f) (hS : ∀ b, S.bad b → b < W.heap.size) (hl : f.length ≤ 1000000) : Calls Try.prog 40 #[.int .i64 k, v] W (MakesS S W k f) := by
  have hF : act_value.F (k, f) = some ⟨k, f⟩ := by
    unfold act_value.F act_value.t slices_Clone.F
    rw [if_pos hl]; rfl
  obtain ⟨out, ho, _, hc⟩ := act_value.good.calls [.ce (.int .i64 k), .ce (.ints false f)] some (.ret (.one (.agg [.int .i64 k, .ints false f]))) (by
    unfold sp
    rw [show (oc sI (o1 sL)).dec [.ce (.int .i64 k), .ce (.ints false f)] = some (k, f) from rfl]
    simp only [hF]
    rfl)
  obtain rfl := Option.some.inj ho
  refine (hc S W #[.int .i64 k, v] hS ⟨rfl, ⟨hv, nofalse⟩, trivial⟩).mono ?_
  rintro e W' ⟨⟨v, rfl, arr, rfl, hv⟩, hb⟩
  obtain ⟨ls⟩ := arr
  match ls, hv with
  | [u, s], ⟨h1, h2, _⟩ =>
    obtain rfl : u = .int .i64 k := h1
    obtain ⟨A', c', rfl, h4⟩ := h2.1
    exact ⟨A', c', rfl, ⟨A', c', rfl, h4⟩, hb⟩
/-- One child alone, in the row that Do laid: where it lies, and its numbers. -/
theorem DEnv.pick {S : Sc} {w W : World} {ca cr ck : Array Value} {A2 : Option Addr} {c2 : Nat} {x : S27} (hS : ∀ b, S.bad b → b < w.heap.size) (h : DEnv S w ca cr ck (.slice A2 1 c2) [x] W) : ∃ g A1 c1 cur, A2 = some ⟨g, 0, none⟩ ∧ w.heap.size + 5 ≤ g ∧ W.heap[g]? = some (.cells cur 27 (0, 0)) ∧ cur[0]? = some (.int .i64 x.f0) ∧ cur[1]? = some (.slice A1 x.f1.length c1) ∧ SlI (dS S w) W (.slice A1 x.f1.length c1) x.f1 := by
  obtain ⟨inner, ⟨_, ho⟩, _⟩ := h.row
  rcases ho with ⟨_, hz⟩ | ⟨g, cap, cur, e, hg, hb, _⟩
  · simp at hz
  · injection e with e1 e2 e3
    obtain ⟨ad, A1, c1, e4, hx0, hx1, hC⟩ := at_S (h.kids hS).2.2 0 (by omega) (by simp)
    rw [e1] at e4
    obtain rfl := Option.some.inj e4
    have x0 : W.cell? ⟨g, 0, none⟩ = some (.int .i64 x.f0) := by simpa [Addr.add] using (show W.cell? _ = some (.int .i64 x.f0) from hx0)
    have x1 : W.cell? ⟨g, 1, none⟩ = some (.slice A1 x.f1.length c1) := by simpa [Addr.add] using (show W.cell? _ = some (.slice A1 x.f1.length c1) from hx1)
    exact ⟨g, A1, c1, cur, e1, hg, hb, (blk_cell hb 0).symm.trans x0, (blk_cell hb 1).symm.trans x1, hC⟩
theorem pick_far {W : World} {cur : Array Value} {kb g : Nat} {p q : Addr} {u v c1 x0 x1 : Value} {kc0 kc2 kc3 kc4 kc5 kc6 kc7 : Value} (hk : W.heap[kb]? = some (.cells #[kc0, c1, kc2, kc3, kc4, kc5, kc6, kc7] 62 (0, 0))) (hg : W.heap[g]? = some (.cells cur 27 (0, 0))) (k1 : kb ≠ p.block) (k2 : kb ≠ q.block) (n1 : g ≠ p.block) (n2 : g ≠ q.block) (h0 : cur[0]? = some x0) (h1 : cur[1]? = some x1) :
    ((W.setCell p u).setCell q v).cell? ⟨kb, 1, none⟩ = some c1 ∧ ((W.setCell p u).setCell q v).cell? ⟨g, 0, none⟩ = some x0 ∧ ((W.setCell p u).setCell q v).cell? ⟨g, 1, none⟩ = some x1 :=
  ⟨(blk_cell (blk_far (blk_far hk k1 u) k2 v) 1).trans rfl, (blk_cell (blk_far (blk_far hg n1 u) n2 v) 0).trans h0, (blk_cell (blk_far (blk_far hg n1 u) n2 v) 1).trans h1⟩
theorem pick_far3 {W : World} {cur : Array Value} {kb g : Nat} {p q r : Addr} {u v z c1 x0 x1 : Value} {kc0 kc2 kc3 kc4 kc5 kc6 kc7 : Value} (hk : W.heap[kb]? = some (.cells #[kc0, c1, kc2, kc3, kc4, kc5, kc6, kc7] 62 (0, 0))) (hg : W.heap[g]? = some (.cells cur 27 (0, 0))) (k1 : kb ≠ p.block) (k2 : kb ≠ q.block) (k3 : kb ≠ r.block) (n1 : g ≠ p.block) (n2 : g ≠ q.block) (n3 : g ≠ r.block) (h0 : cur[0]? = some x0) (h1 : cur[1]? = some x1) :
    (((W.setCell p u).setCell q v).setCell r z).cell? ⟨kb, 1, none⟩ = some c1 ∧ (((W.setCell p u).setCell q v).setCell r z).cell? ⟨g, 0, none⟩ = some x0 ∧ (((W.setCell p u).setCell q v).setCell r z).cell? ⟨g, 1, none⟩ = some x1 :=
  ⟨(blk_cell (blk_far (blk_far (blk_far hk k1 u) k2 v) k3 z) 1).trans rfl, (blk_cell (blk_far (blk_far (blk_far hg n1 u) n2 v) n3 z) 0).trans h0, (blk_cell (blk_far (blk_far (blk_far hg n1 u) n2 v) n3 z) 1).trans h1⟩
set_option maxHeartbeats 2000000 in
set_option maxRecDepth 100000 in
theorem do_pick (S : Sc) (A : Option Addr) (c : Nat) (P : List Int) (Al : Option Addr) (cl : Nat) (l : List S27) (y m d h i s : Int) (op : Int) (w : World)
    (hS : ∀ b, S.bad b → b < w.heap.size) (hP : Kd.C (Kd.int .i64) w A P.length P) (hl : SlV S w (.slice Al l.length cl) l) (hin : ∀ j : Int, 0 ≤ j → j < P.length → 0 ≤ rd P j ∧ rd P j < l.length) (hop : op = 0) (hsz : P.length = 1) (hfl : (rd_T27 l (rd P 0)).f1.length ≤ 1000000) :
    Calls Try.prog 22 #[.agg #[.int .i64 op, .slice A P.length c], .slice Al l.length cl, .agg #[.int .i64 y, .int .i64 m, .int .i64 d, .int .i64 h, .int .i64 i, .int .i64 s]] w (GivesS S w (rd_T27 l (rd P 0)).f0 (rd_T27 l (rd P 0)).f1) := by
  have hmf : ∀ (fn : Fn) (first cap : Array Value) (w : World), (Instr.makeFunc fn first cap).run Try.prog w = .ok (.func fn first cap) w := fun _ _ _ _ => rfl
  have HP := Aside0.mk hP
  have HL := Aside0.mk hl
  have HS0 := Aside0.mk hS
  have HI := Aside0.mk hin
  have HO := Aside0.mk hop
  have HF := Aside0.mk hfl
  have HZ := Aside0.mk hsz
  clear hP hl hin hop hsz hfl hS
  generalize hn : P.length = n at *
  generalize hq : l.length = q at *
  have hn' := Aside0.mk hn
  have hq' := Aside0.mk hq
  have HN := Aside0.mk (Kd.C_max HP.out)
  clear hn hq
  go_enter_defers Try.func22, Try.ntmps22
  go_wp2_with fail
  go_loopg [19] n (fun kq v19 w' => ∃ (j : Nat) (v : Value), v19 = .int .i64 (j : Int) ∧ Aside0 (kq + j = n) ∧ Aside0 (DEnv S w #[.int .i64 op, .slice A n c] #[.int .i64 y, .int .i64 m, .int .i64 d, .int .i64 h, .int .i64 i, .int .i64 s] #[.int .i64 op, v, .int .i64 y, .int .i64 m, .int .i64 d, .int .i64 h, .int .i64 i, .int .i64 s] v ((P.take j).map (rd_T27 l)) w'))
  case atStart => exact ⟨0, _, rfl, ⟨by omega⟩, ⟨DEnv.start S w _ _ _⟩⟩
  case round =>
    obtain ⟨j, v, rfl, HJ, HD⟩ := hrel
    by_cases hj : (j : Int) < n
    · have hj' := decide_eq_true hj
      obtain ⟨ad, eA, hx⟩ := Kd.at_int (Kd.C_below HP.out HD.out.below) j (by omega) hj
      subst eA
      replace hx : wr.cell? (ad.add j) = some (.int .i64 (rd P (j : Int))) := by simpa using hx
      obtain ⟨hp0, hp1⟩ := HI.out j (by omega) hj
      obtain ⟨al, A1, c1, eAl, hx0, hx1, hCA⟩ := at_S HL.out (rd P j) hp0 (by rw [hq'.out]; exact hp1)
      have X0 := Aside0.mk hx0
      have X1 := Aside0.mk hx1
      have XK := Aside0.mk (kS_mk hCA)
      clear hCA
      subst eAl
      obtain ⟨a0, a1⟩ := HD.out.ac
      have hpq := decide_eq_true hp1
      have hpz := decide_eq_true hp0
      generalize hpd : rd P (j : Int) = p at *
      have HPD := Aside0.mk hpd
      clear hpd
      go_wp2_with (go_at_call 39; refine (act_must.calls true _ _ rfl).mono ?_; rintro e w' ⟨rfl, ⟨nd, rfl⟩⟩)
      have HD2 := Aside0.mk (HD.out.drewN nd)
      clear HD a0 a1 hx hx0 hx1
      generalize wr.drewN nd = W1 at *
      have HD := HD2
      clear HD2
      have HS : Aside0 ((((P.take j).map (rd_T27 l)).length + 1) * 32 ≤ 140737488355328) := ⟨by have := HZ.out; have := HJ.out; simp; omega⟩
      have hk : W1.drew.cell? ⟨w.heap.size + 1 + 1 + 1 + 1, 1, none⟩ = some v := HD.out.kc.2.1
      have hk1 : ∀ o, (W1.drew.alloc o).cell? ⟨w.heap.size + 1 + 1 + 1 + 1, 1, none⟩ = some v := fun o => pw_cell_below (below_alloc (Below.refl _ _) o) HD.out.kc.2.1
      have hk2 : ∀ o, (W1.alloc o).drew.cell? ⟨w.heap.size + 1 + 1 + 1 + 1, 1, none⟩ = some v := fun o => pw_cell_below (below_alloc (Below.refl _ _) o) HD.out.kc.2.1
      have hk3 : ∀ o, (W1.alloc o).cell? ⟨w.heap.size + 1 + 1 + 1 + 1, 1, none⟩ = some v := fun o => pw_cell_below (below_alloc (Below.refl _ _) o) HD.out.kc.2.1
      have hs0 := pw_cell_below (by repeat (first | (with_reducible first | exact HD.out.below | apply below_alloc | apply pw_below_drewN | apply below_drew) | exact HD.out.below | refine below_set ?_ (by omega)) : Below w.heap.size w W1.drew) X0.out
      have hs1 := pw_cell_below (by repeat (first | (with_reducible first | exact HD.out.below | apply below_alloc | apply pw_below_drewN | apply below_drew) | exact HD.out.below | refine below_set ?_ (by omega)) : Below w.heap.size w W1.drew) X1.out
      refine wp_region_noPanic ?_
      go_region_law (first | (refine OwnRow.append_step (P := Try.prog) (W := W1.drew) (w0 := W1.drew) (R := kS S w) (w.heap.size + 5) rfl (.tmp 35) (.tmp 40) 24 27 (.agg #[.int .i64 0, .slice none 0 0]) 2 32 rfl Try.underlying24 info27 rfl (by decide) (by decide) v _ (rd_T27 l p) [.int .i64 (rd_T27 l p).f0, .slice A1 (rd_T27 l p).f1.length c1] rfl rfl XK.out rfl (by simp [Value.oneCell']) HD.out.drew.row (Below.refl _ _) HD.out.drew.big HS.out ?_; intro v1 W2 hrow hb hg hat; obtain ⟨A2, c2, ev2, _⟩ := hrow.slice_; have HV2 := Aside0.mk hrow; clear hrow; generalize ((P.take j).map (rd_T27 l) ++ [rd_T27 l p]).length = n2 at ev2; subst ev2; have hrow := HV2.out; have HDn := Aside0.mk (HD.out.drew.append_ hb hrow); clear hrow hb hg hat HD; have HD := HDn; clear HDn; have kk1 := HD.out.kc.2.1; have kk8 := HD.out.kc.2.2.2.2.2.2.2.2; have kd1 := HD.out.drew.kc.2.1; have kd8 := HD.out.drew.kc.2.2.2.2.2.2.2.2))
      all_goals (refine NoPanic.normal ?_)
      all_goals
        go_wp2_with fail
        go_roundg (n - (j + 1))
        case measure => have := HJ.out; omega
        case rel =>
          have HW := HD.out.store_ (u := .slice A2 n2 c2)
          rw [take_succ_map P l j p (by rw [hn'.out]; omega) HPD.out] at HW
          exact ⟨j + 1, .slice A2 n2 c2, by rw [show wrap64 ((j : Int) + 1) = ((j + 1 : Nat) : Int) from by have := HN.out; unfold wrap64; omega], ⟨by have := HJ.out; omega⟩, ⟨HW⟩⟩
    · have hj' := decide_eq_false hj
      obtain ⟨a0, a1⟩ := HD.out.ac
      have hne : (op == 0) = true := beq_iff_eq.mpr HO.out
      obtain ⟨k0, k1, k2, k3, k4, k5, k6, k7, k8⟩ := HD.out.kc
      obtain ⟨A2, c2, ev2, _⟩ := HD.out.row.slice_
      have hlen : ((P.take j).map (rd_T27 l)).length = n := by have := HJ.out; have := hn'.out; simp; omega
      rw [hlen] at ev2
      subst ev2
      have hps : (P.take j).map (rd_T27 l) = P.map (rd_T27 l) := by have := HJ.out; have := hn'.out; rw [List.take_of_length_le (by omega)]
      have hC := Aside0.mk (HD.out.kids HS0.out).2.2
      rw [hps] at hC
      have hplen : (P.map (rd_T27 l)).length = n := by have := hn'.out; simp; omega
      rw [hplen] at hC
      have hP1 : P.length = 1 := by have := hn'.out; have := HZ.out; omega
      have ex : P.map (rd_T27 l) = [rd_T27 l (rd P 0)] := by
        cases P with
        | nil => simp at hP1
        | cons p Q =>
          cases Q with
          | nil => rfl
          | cons q R => simp at hP1
      have hn1 : n = 1 := HZ.out
      have HD2 := HD.out
      rw [hps, ex] at HD2
      have HF2 := HF.out
      clear HD hC hplen hps hP1 HF
      subst hn1
      generalize rd_T27 l (rd P 0) = x at *
      have HD := Aside0.mk HD2
      have HF := Aside0.mk HF2
      clear HD2 HF2
      go_wp2_with (go_at_call 39; refine (act_must.calls true _ _ rfl).mono ?_; rintro e w' ⟨rfl, ⟨nd, rfl⟩⟩)
      have HD2 := Aside0.mk (HD.out.drewN nd)
      clear HD a0 a1 k0 k1 k2 k3 k4 k5 k6 k7 k8
      generalize wr.drewN nd = W1 at *
      have HD := HD2
      clear HD2
      obtain ⟨g, A1, c1, cur, rfl, hg5, hgb, hx0, hx1, hC⟩ := HD.out.pick HS0.out
      have ng2 : g ≠ w.heap.size + 1 + 1 := by omega
      have ng3 : g ≠ w.heap.size + 1 + 1 + 1 := by omega
      have HC := Aside0.mk hC
      have HG := Aside0.mk hgb
      have X0 := Aside0.mk hx0
      have X1 := Aside0.mk hx1
      clear hC hgb hx0 hx1
      have k1 : W1.drew.cell? ⟨w.heap.size + 1 + 1 + 1 + 1, 1, none⟩ = some (.slice (some ⟨g, 0, none⟩) 1 c2) := HD.out.drew.kc.2.1
      have y0 : W1.drew.cell? ⟨g, 0, none⟩ = some (.int .i64 x.f0) := (blk_cell HG.out 0).trans X0.out
      have y1 : W1.drew.cell? ⟨g, 1, none⟩ = some (.slice A1 x.f1.length c1) := (blk_cell HG.out 1).trans X1.out
      refine wp_region_noPanic ?_
      go_region_held3 (fun w' => w'.cell? ⟨w.heap.size + 1 + 1 + 1 + 1, 1, none⟩ = some (.slice (some ⟨g, 0, none⟩) 1 c2) ∧ w'.cell? ⟨g, 0, none⟩ = some (.int .i64 x.f0) ∧ w'.cell? ⟨g, 1, none⟩ = some (.slice A1 x.f1.length c1)) ((first | (with_reducible exact ⟨k1, y0, y1⟩) | (with_reducible exact ⟨z1, z2, z3⟩) | (with_reducible exact z4) | (with_reducible exact z5) | (go_keep; done))) (first | (go_at_call 40; refine (value_okS (dS S w) x.f0 _ x.f1 W1.drew (sl_below HC.out (below_drew (Below.refl _ _))) (dS_lt HS0.out HD.out.big) HF.out).mono ?_; rintro e w2 ⟨A3, c3, rfl, hR, hb⟩; have HR3 := Aside0.mk hR; have HB3 := Aside0.mk hb; have z1 := pw_cell_below hb k1; have z2 := pw_cell_below hb y0; have z3 := pw_cell_below hb y1; have HD3 := (HD.out.drew).then_ hb; have hgw := Aside0.mk (blk_below (blk_drew HG.out) hb); have hkw := HD3.kb; have z4 : ((w2.setCell ⟨w.heap.size + 1 + 1, 0, none⟩ (.int .i64 x.f0)).setCell ⟨w.heap.size + 1 + 1, 1, none⟩ (.slice A3 x.f1.length c3)).cell? ⟨w.heap.size + 1 + 1 + 1 + 1, 1, none⟩ = some (.slice (some ⟨g, 0, none⟩) 1 c2) ∧ ((w2.setCell ⟨w.heap.size + 1 + 1, 0, none⟩ (.int .i64 x.f0)).setCell ⟨w.heap.size + 1 + 1, 1, none⟩ (.slice A3 x.f1.length c3)).cell? ⟨g, 0, none⟩ = some (.int .i64 x.f0) ∧ ((w2.setCell ⟨w.heap.size + 1 + 1, 0, none⟩ (.int .i64 x.f0)).setCell ⟨w.heap.size + 1 + 1, 1, none⟩ (.slice A3 x.f1.length c3)).cell? ⟨g, 1, none⟩ = some (.slice A1 x.f1.length c1) := pick_far hkw hgw.out (by show w.heap.size + 1 + 1 + 1 + 1 ≠ w.heap.size + 1 + 1; omega) (by show w.heap.size + 1 + 1 + 1 + 1 ≠ w.heap.size + 1 + 1; omega) ng2 ng2 X0.out X1.out; have z5 : (((w2.setCell ⟨w.heap.size + 1 + 1, 0, none⟩ (.int .i64 x.f0)).setCell ⟨w.heap.size + 1 + 1, 1, none⟩ (.slice A3 x.f1.length c3)).setCell ⟨w.heap.size + 1 + 1 + 1, 0, none⟩ (.bool true)).cell? ⟨w.heap.size + 1 + 1 + 1 + 1, 1, none⟩ = some (.slice (some ⟨g, 0, none⟩) 1 c2) ∧ (((w2.setCell ⟨w.heap.size + 1 + 1, 0, none⟩ (.int .i64 x.f0)).setCell ⟨w.heap.size + 1 + 1, 1, none⟩ (.slice A3 x.f1.length c3)).setCell ⟨w.heap.size + 1 + 1 + 1, 0, none⟩ (.bool true)).cell? ⟨g, 0, none⟩ = some (.int .i64 x.f0) ∧ (((w2.setCell ⟨w.heap.size + 1 + 1, 0, none⟩ (.int .i64 x.f0)).setCell ⟨w.heap.size + 1 + 1, 1, none⟩ (.slice A3 x.f1.length c3)).setCell ⟨w.heap.size + 1 + 1 + 1, 0, none⟩ (.bool true)).cell? ⟨g, 1, none⟩ = some (.slice A1 x.f1.length c1) := pick_far3 hkw hgw.out (by show w.heap.size + 1 + 1 + 1 + 1 ≠ w.heap.size + 1 + 1; omega) (by show w.heap.size + 1 + 1 + 1 + 1 ≠ w.heap.size + 1 + 1; omega) (by show w.heap.size + 1 + 1 + 1 + 1 ≠ w.heap.size + 1 + 1 + 1; omega) ng2 ng2 ng3 X0.out X1.out; clear hkw; have q0 : w2.cell? ⟨w.heap.size + 1 + 1, 0, none⟩ = some (.int .i64 0) := (blk_cell HD3.vb 0).trans rfl; have q1 := blk_frozen HD3.vb 0; have hv1 := blk_set HD3.vb 0 (.int .i64 x.f0); have q2 : (w2.setCell ⟨w.heap.size + 1 + 1, 0, none⟩ (.int .i64 x.f0)).cell? ⟨w.heap.size + 1 + 1, 1, none⟩ = some (.slice none 0 0) := (blk_cell hv1 1).trans rfl; have q3 := blk_frozen hv1 1; have hi2 := blk_far (p := ⟨w.heap.size + 1 + 1, 1, none⟩) (blk_far (p := ⟨w.heap.size + 1 + 1, 0, none⟩) HD3.ib (by simp) (.int .i64 x.f0)) (by simp) (.slice A3 x.f1.length c3); have q4 : ((w2.setCell ⟨w.heap.size + 1 + 1, 0, none⟩ (.int .i64 x.f0)).setCell ⟨w.heap.size + 1 + 1, 1, none⟩ (.slice A3 x.f1.length c3)).cell? ⟨w.heap.size + 1 + 1 + 1, 0, none⟩ = some (.bool false) := (blk_cell hi2 0).trans rfl; have q5 := blk_frozen hi2 0; have hV := Aside0.mk (blk_far (p := ⟨w.heap.size + 1 + 1 + 1, 0, none⟩) (blk_set hv1 1 (.slice A3 x.f1.length c3)) (by simp) (.bool true)); have hI := Aside0.mk (blk_set hi2 0 (.bool true)); clear hR hb  HD3 hv1 hi2))
      all_goals (refine NoPanic.normal ?_)
      all_goals
        go_wp2_with fail
        refine leaves_cons (f := 38) (args := #[.pointer (some ⟨w.heap.size + 1 + 1, 0, none⟩), .pointer (some ⟨w.heap.size + 1 + 1 + 1, 0, none⟩)]) (by simp) (by simp [go_sem]) ?_
        refine (do1_idle _ _ _).mono ?_
        rintro e u' w'' ⟨rfl, rfl, rfl⟩
        have v0 := blk_cell hV.out 0
        have v1 := blk_cell hV.out 1
        have i0 := blk_cell hI.out 0
        have hG := gives_end (k := x.f0) HD.out.drew HB3.out HR3.out (.int .i64 x.f0) (.slice A3 x.f1.length c3) (.bool true)
        simp [Leaves, settle, results, Try.results22, go_sem, v0, v1, i0]
        exact hG
/-- What the method of an op makes of children; none: it dies. -/
noncomputable def meth (op : Int) (l : List S27) (m : Mom) : Option (Option S27) :=
  if op = 1 then act_date.F (1, l, m) else if op = 2 then act_this.F (2, l, m) else if op = 3 then act_mtime.F (3, l, m) else if op = 4 then act_half.F (4, l, m) else if op = 5 then act_moment.F (5, l, m) else if op = 6 then act_relative.F (6, l, m) else if op = 7 then act_next.F (7, l, m) else if op = 8 then act_whole.F (8, l, m) else if op = 9 then act_point.F (9, l, m) else if op = 10 then act_group.F (10, l, m) else if op = 11 then act_negative.F (11, l, m) else if op = 12 then act_money.F (12, l, m) else if op = 13 then act_duration.F (13, l, m) else if op = 14 then act_sum.F (14, l, m) else if op = 15 then act_span.F (15, l, m) else none
theorem kids_on {S : Sc} {W W1 : World} {v : Value} {l : List S27} (h : SlV S W v l) (hB : Below W.heap.size W W1) : SlV (mS S W) W1 v l := by
  refine SlV.mv (q := fun _ => False) (S := S) (S' := mS S W) (w := W) ⟨hB.size, fun b hb' _ => hB.block b hb', fun b hb' hbad => ?_, fun _ _ => rfl⟩ h
  have hbad : S.bad b ∨ b = W.heap.size + 1 := hbad
  rcases hbad with hbad | hbad
  · exact hbad
  · omega
theorem mS_lt {S : Sc} {W W1 : World} (hS : ∀ b, S.bad b → b < W.heap.size) (hz : W.heap.size + 2 ≤ W1.heap.size) : ∀ b, (mS S W).bad b → b < W1.heap.size := fun b hbad => by
  have hbad : S.bad b ∨ b = W.heap.size + 1 := hbad
  rcases hbad with hbad | hbad
  · have := hS b hbad; omega
  · omega
theorem sv_free {S : Sc} {w : World} {v : Value} {l : List S27} (h : SlV S w v l) : SlV free w v l := by
  obtain ⟨A, c, rfl, h1, h2, h3⟩ := h
  exact ⟨A, c, rfl, h1, h2, fun hl => by
    obtain ⟨ad, h4, h5, _, h6⟩ := h3 hl
    exact ⟨ad, h4, h5, fun h => h, fun j x hx => by
      obtain ⟨g1, v, g2, g3⟩ := h6 j x hx
      exact ⟨g1, v, g2, sl_free g3⟩⟩⟩
theorem rep_kids {S : Sc} {W : World} {A : Option Addr} {c : Nat} (op : Int) (l : List S27) (m : Mom) (hk : SlV S W (.slice A l.length c) l) : All2 (Rep1 S W) ([.agg #[.int .i64 op, .slice A l.length c, .int .i64 m.1, .int .i64 m.2.1, .int .i64 m.2.2.1, .int .i64 m.2.2.2.1, .int .i64 m.2.2.2.2.1, .int .i64 m.2.2.2.2.2]] : List Value) ((o1 sK).enc (op, l, m)) :=
  ⟨⟨#[.int .i64 op, .slice A l.length c, .int .i64 m.1, .int .i64 m.2.1, .int .i64 m.2.2.1, .int .i64 m.2.2.2.1, .int .i64 m.2.2.2.2.1, .int .i64 m.2.2.2.2.2], rfl, rfl, ⟨hk, nofalse⟩, rfl, rfl, rfl, rfl, rfl, rfl, trivial⟩, trivial⟩
theorem makes_of {fn : Nat} {F : Int × List S27 × Mom → Option (Option S27)} (hg : Good fn (spd (o1 sK) (o1 s1) F)) (a : Int × List S27 × Mom) (x : S27) (hF : F a = some (some x)) (S : Sc) (A : Option Addr) (c : Nat) (W : World) (hk : SlV S W (.slice A a.2.1.length c) a.2.1) (hS : ∀ b, S.bad b → b < W.heap.size) :
    Calls Try.prog fn #[.agg #[.int .i64 a.1, .slice A a.2.1.length c, .int .i64 a.2.2.1, .int .i64 a.2.2.2.1, .int .i64 a.2.2.2.2.1, .int .i64 a.2.2.2.2.2.1, .int .i64 a.2.2.2.2.2.2.1, .int .i64 a.2.2.2.2.2.2.2]] W (MakesS S W x.f0 x.f1) := by
  obtain ⟨op, l, m⟩ := a
  obtain ⟨out, ho, _, hc⟩ := hg.calls ((o1 sK).enc (op, l, m)) some (.ret (packD ((o1 s1).enc x))) (by
    unfold spd
    rw [show (o1 sK).dec ((o1 sK).enc (op, l, m)) = some (op, l, m) from rfl]
    simp only [hF])
  obtain rfl := Option.some.inj ho
  refine (hc S W #[.agg #[.int .i64 op, .slice A l.length c, .int .i64 m.1, .int .i64 m.2.1, .int .i64 m.2.2.1, .int .i64 m.2.2.2.1, .int .i64 m.2.2.2.2.1, .int .i64 m.2.2.2.2.2]] hS (rep_kids op l m hk)).mono ?_
  rintro e W' ⟨⟨v, rfl, arr, rfl, hv⟩, hb⟩
  obtain ⟨ls⟩ := arr
  match ls, hv with
  | [u, s], ⟨h1, h2, _⟩ =>
    obtain rfl : u = .int .i64 x.f0 := h1
    obtain ⟨A', c', rfl, h4⟩ := h2.1
    exact ⟨A', c', rfl, ⟨A', c', rfl, h4⟩, hb⟩
theorem dies_of {fn : Nat} {F : Int × List S27 × Mom → Option (Option S27)} (hg : Good fn (spd (o1 sK) (o1 s1) F)) (a : Int × List S27 × Mom) (hF : F a = some none) (S : Sc) (A : Option Addr) (c : Nat) (W : World) (hk : SlV S W (.slice A a.2.1.length c) a.2.1) (hS : ∀ b, S.bad b → b < W.heap.size) :
    Calls Try.prog fn #[.agg #[.int .i64 a.1, .slice A a.2.1.length c, .int .i64 a.2.2.1, .int .i64 a.2.2.2.1, .int .i64 a.2.2.2.2.1, .int .i64 a.2.2.2.2.2.1, .int .i64 a.2.2.2.2.2.2.1, .int .i64 a.2.2.2.2.2.2.2]] W (Dies W) := by
  obtain ⟨op, l, m⟩ := a
  obtain ⟨out, ho, _, hc⟩ := hg.calls ((o1 sK).enc (op, l, m)) some .dies (by
    unfold spd
    rw [show (o1 sK).dec ((o1 sK).enc (op, l, m)) = some (op, l, m) from rfl]
    simp only [hF])
  obtain rfl := Option.some.inj ho
  refine (hc S W #[.agg #[.int .i64 op, .slice A l.length c, .int .i64 m.1, .int .i64 m.2.1, .int .i64 m.2.2.1, .int .i64 m.2.2.2.1, .int .i64 m.2.2.2.2.1, .int .i64 m.2.2.2.2.2]] hS (rep_kids op l m hk)).mono ?_
  rintro e W' ⟨⟨u, pv, rfl⟩, hb⟩
  exact ⟨⟨u, pv, rfl⟩, hb⟩
theorem right_of {x : S27} {b : Bool} (hr : act_Right.F x = some b) : ∀ W A1 c1, SlI free W (.slice A1 x.f1.length c1) x.f1 → Calls Try.prog 25 #[.agg #[.int .i64 x.f0, .slice A1 x.f1.length c1]] W fun e w' => e = .returned (.bool b) ∧ Below W.heap.size W w' := by
  intro W A1 c1 hs
  obtain ⟨out, ho, _, hc⟩ := act_Right.good.calls ((o1 s1).enc x) some (.ret (.one (.ce (.bool b)))) (by
    unfold sp
    rw [show (o1 s1).dec ((o1 s1).enc x) = some x from rfl]
    simp only [hr]
    rfl)
  obtain rfl := Option.some.inj ho
  refine (hc free W #[.agg #[.int .i64 x.f0, .slice A1 x.f1.length c1]] (fun _ h => h.elim) ⟨⟨#[.int .i64 x.f0, .slice A1 x.f1.length c1], rfl, rfl, ⟨hs, nofalse⟩, trivial⟩, trivial⟩).mono ?_
  rintro e W' ⟨⟨v, rfl, hv⟩, hb⟩
  exact ⟨by rw [show v = .bool b from hv], hb⟩
theorem made_gives {S : Sc} {op : Int} {l : List S27} {m : Mom} {x : S27} {A : Option Addr} {c : Nat} {W : World} (h : meth op l m = some (some x)) (hr : act_Right.F x = some true) (hk : SlV S W (.slice A l.length c) l) (hS : ∀ b, S.bad b → b < W.heap.size) : Calls Try.prog 41 #[.agg #[.int .i64 op, .slice A l.length c, .int .i64 m.1, .int .i64 m.2.1, .int .i64 m.2.2.1, .int .i64 m.2.2.2.1, .int .i64 m.2.2.2.2.1, .int .i64 m.2.2.2.2.2]] W (MakesS S W x.f0 x.f1) := by
  unfold meth at h
  by_cases e : op = 1
  · rw [if_pos e] at h; subst e; exact made_1_ok S A l.length c m.1 m.2.1 m.2.2.1 m.2.2.2.1 m.2.2.2.2.1 m.2.2.2.2.2 x.f0 x.f1 W (fun W1 hB hz => makes_of act_date.good (1, l, m) x h _ A c W1 (kids_on hk hB) (mS_lt hS hz)) (right_of hr)
  rw [if_neg e] at h
  by_cases e : op = 2
  · rw [if_pos e] at h; subst e; exact made_2_ok S A l.length c m.1 m.2.1 m.2.2.1 m.2.2.2.1 m.2.2.2.2.1 m.2.2.2.2.2 x.f0 x.f1 W (fun W1 hB hz => makes_of act_this.good (2, l, m) x h _ A c W1 (kids_on hk hB) (mS_lt hS hz)) (right_of hr)
  rw [if_neg e] at h
  by_cases e : op = 3
  · rw [if_pos e] at h; subst e; exact made_3_ok S A l.length c m.1 m.2.1 m.2.2.1 m.2.2.2.1 m.2.2.2.2.1 m.2.2.2.2.2 x.f0 x.f1 W (fun W1 hB hz => makes_of act_mtime.good (3, l, m) x h _ A c W1 (kids_on hk hB) (mS_lt hS hz)) (right_of hr)
  rw [if_neg e] at h
  by_cases e : op = 4
  · rw [if_pos e] at h; subst e; exact made_4_ok S A l.length c m.1 m.2.1 m.2.2.1 m.2.2.2.1 m.2.2.2.2.1 m.2.2.2.2.2 x.f0 x.f1 W (fun W1 hB hz => makes_of act_half.good (4, l, m) x h _ A c W1 (kids_on hk hB) (mS_lt hS hz)) (right_of hr)
  rw [if_neg e] at h
  by_cases e : op = 5
  · rw [if_pos e] at h; subst e; exact made_5_ok S A l.length c m.1 m.2.1 m.2.2.1 m.2.2.2.1 m.2.2.2.2.1 m.2.2.2.2.2 x.f0 x.f1 W (fun W1 hB hz => makes_of act_moment.good (5, l, m) x h _ A c W1 (kids_on hk hB) (mS_lt hS hz)) (right_of hr)
  rw [if_neg e] at h
  by_cases e : op = 6
  · rw [if_pos e] at h; subst e; exact made_6_ok S A l.length c m.1 m.2.1 m.2.2.1 m.2.2.2.1 m.2.2.2.2.1 m.2.2.2.2.2 x.f0 x.f1 W (fun W1 hB hz => makes_of act_relative.good (6, l, m) x h _ A c W1 (kids_on hk hB) (mS_lt hS hz)) (right_of hr)
  rw [if_neg e] at h
  by_cases e : op = 7
  · rw [if_pos e] at h; subst e; exact made_7_ok S A l.length c m.1 m.2.1 m.2.2.1 m.2.2.2.1 m.2.2.2.2.1 m.2.2.2.2.2 x.f0 x.f1 W (fun W1 hB hz => makes_of act_next.good (7, l, m) x h _ A c W1 (kids_on hk hB) (mS_lt hS hz)) (right_of hr)
  rw [if_neg e] at h
  by_cases e : op = 8
  · rw [if_pos e] at h; subst e; exact made_8_ok S A l.length c m.1 m.2.1 m.2.2.1 m.2.2.2.1 m.2.2.2.2.1 m.2.2.2.2.2 x.f0 x.f1 W (fun W1 hB hz => makes_of act_whole.good (8, l, m) x h _ A c W1 (kids_on hk hB) (mS_lt hS hz)) (right_of hr)
  rw [if_neg e] at h
  by_cases e : op = 9
  · rw [if_pos e] at h; subst e; exact made_9_ok S A l.length c m.1 m.2.1 m.2.2.1 m.2.2.2.1 m.2.2.2.2.1 m.2.2.2.2.2 x.f0 x.f1 W (fun W1 hB hz => makes_of act_point.good (9, l, m) x h _ A c W1 (kids_on hk hB) (mS_lt hS hz)) (right_of hr)
  rw [if_neg e] at h
  by_cases e : op = 10
  · rw [if_pos e] at h; subst e; exact made_10_ok S A l.length c m.1 m.2.1 m.2.2.1 m.2.2.2.1 m.2.2.2.2.1 m.2.2.2.2.2 x.f0 x.f1 W (fun W1 hB hz => makes_of act_group.good (10, l, m) x h _ A c W1 (kids_on hk hB) (mS_lt hS hz)) (right_of hr)
  rw [if_neg e] at h
  by_cases e : op = 11
  · rw [if_pos e] at h; subst e; exact made_11_ok S A l.length c m.1 m.2.1 m.2.2.1 m.2.2.2.1 m.2.2.2.2.1 m.2.2.2.2.2 x.f0 x.f1 W (fun W1 hB hz => makes_of act_negative.good (11, l, m) x h _ A c W1 (kids_on hk hB) (mS_lt hS hz)) (right_of hr)
  rw [if_neg e] at h
  by_cases e : op = 12
  · rw [if_pos e] at h; subst e; exact made_12_ok S A l.length c m.1 m.2.1 m.2.2.1 m.2.2.2.1 m.2.2.2.2.1 m.2.2.2.2.2 x.f0 x.f1 W (fun W1 hB hz => makes_of act_money.good (12, l, m) x h _ A c W1 (kids_on hk hB) (mS_lt hS hz)) (right_of hr)
  rw [if_neg e] at h
  by_cases e : op = 13
  · rw [if_pos e] at h; subst e; exact made_13_ok S A l.length c m.1 m.2.1 m.2.2.1 m.2.2.2.1 m.2.2.2.2.1 m.2.2.2.2.2 x.f0 x.f1 W (fun W1 hB hz => makes_of act_duration.good (13, l, m) x h _ A c W1 (kids_on hk hB) (mS_lt hS hz)) (right_of hr)
  rw [if_neg e] at h
  by_cases e : op = 14
  · rw [if_pos e] at h; subst e; exact made_14_ok S A l.length c m.1 m.2.1 m.2.2.1 m.2.2.2.1 m.2.2.2.2.1 m.2.2.2.2.2 x.f0 x.f1 W (fun W1 hB hz => makes_of act_sum.good (14, l, m) x h _ A c W1 (kids_on hk hB) (mS_lt hS hz)) (right_of hr)
  rw [if_neg e] at h
  by_cases e : op = 15
  · rw [if_pos e] at h; subst e; exact made_15_ok S A l.length c m.1 m.2.1 m.2.2.1 m.2.2.2.1 m.2.2.2.2.1 m.2.2.2.2.2 x.f0 x.f1 W (fun W1 hB hz => makes_of act_span.good (15, l, m) x h _ A c W1 (kids_on hk hB) (mS_lt hS hz)) (right_of hr)
  rw [if_neg e] at h
  cases h
theorem made_wrong {S : Sc} {op : Int} {l : List S27} {m : Mom} {x : S27} {A : Option Addr} {c : Nat} {W : World} (h : meth op l m = some (some x)) (hr : act_Right.F x = some false) (hk : SlV S W (.slice A l.length c) l) (hS : ∀ b, S.bad b → b < W.heap.size) : Calls Try.prog 41 #[.agg #[.int .i64 op, .slice A l.length c, .int .i64 m.1, .int .i64 m.2.1, .int .i64 m.2.2.1, .int .i64 m.2.2.2.1, .int .i64 m.2.2.2.2.1, .int .i64 m.2.2.2.2.2]] W (Dies W) := by
  unfold meth at h
  by_cases e : op = 1
  · rw [if_pos e] at h; subst e; exact made_1_wrong S A l.length c m.1 m.2.1 m.2.2.1 m.2.2.2.1 m.2.2.2.2.1 m.2.2.2.2.2 x.f0 x.f1 W (fun W1 hB hz => makes_of act_date.good (1, l, m) x h _ A c W1 (kids_on hk hB) (mS_lt hS hz)) (right_of hr)
  rw [if_neg e] at h
  by_cases e : op = 2
  · rw [if_pos e] at h; subst e; exact made_2_wrong S A l.length c m.1 m.2.1 m.2.2.1 m.2.2.2.1 m.2.2.2.2.1 m.2.2.2.2.2 x.f0 x.f1 W (fun W1 hB hz => makes_of act_this.good (2, l, m) x h _ A c W1 (kids_on hk hB) (mS_lt hS hz)) (right_of hr)
  rw [if_neg e] at h
  by_cases e : op = 3
  · rw [if_pos e] at h; subst e; exact made_3_wrong S A l.length c m.1 m.2.1 m.2.2.1 m.2.2.2.1 m.2.2.2.2.1 m.2.2.2.2.2 x.f0 x.f1 W (fun W1 hB hz => makes_of act_mtime.good (3, l, m) x h _ A c W1 (kids_on hk hB) (mS_lt hS hz)) (right_of hr)
  rw [if_neg e] at h
  by_cases e : op = 4
  · rw [if_pos e] at h; subst e; exact made_4_wrong S A l.length c m.1 m.2.1 m.2.2.1 m.2.2.2.1 m.2.2.2.2.1 m.2.2.2.2.2 x.f0 x.f1 W (fun W1 hB hz => makes_of act_half.good (4, l, m) x h _ A c W1 (kids_on hk hB) (mS_lt hS hz)) (right_of hr)
  rw [if_neg e] at h
  by_cases e : op = 5
  · rw [if_pos e] at h; subst e; exact made_5_wrong S A l.length c m.1 m.2.1 m.2.2.1 m.2.2.2.1 m.2.2.2.2.1 m.2.2.2.2.2 x.f0 x.f1 W (fun W1 hB hz => makes_of act_moment.good (5, l, m) x h _ A c W1 (kids_on hk hB) (mS_lt hS hz)) (right_of hr)
  rw [if_neg e] at h
  by_cases e : op = 6
  · rw [if_pos e] at h; subst e; exact made_6_wrong S A l.length c m.1 m.2.1 m.2.2.1 m.2.2.2.1 m.2.2.2.2.1 m.2.2.2.2.2 x.f0 x.f1 W (fun W1 hB hz => makes_of act_relative.good (6, l, m) x h _ A c W1 (kids_on hk hB) (mS_lt hS hz)) (right_of hr)
  rw [if_neg e] at h
  by_cases e : op = 7
  · rw [if_pos e] at h; subst e; exact made_7_wrong S A l.length c m.1 m.2.1 m.2.2.1 m.2.2.2.1 m.2.2.2.2.1 m.2.2.2.2.2 x.f0 x.f1 W (fun W1 hB hz => makes_of act_next.good (7, l, m) x h _ A c W1 (kids_on hk hB) (mS_lt hS hz)) (right_of hr)
  rw [if_neg e] at h
  by_cases e : op = 8
  · rw [if_pos e] at h; subst e; exact made_8_wrong S A l.length c m.1 m.2.1 m.2.2.1 m.2.2.2.1 m.2.2.2.2.1 m.2.2.2.2.2 x.f0 x.f1 W (fun W1 hB hz => makes_of act_whole.good (8, l, m) x h _ A c W1 (kids_on hk hB) (mS_lt hS hz)) (right_of hr)
  rw [if_neg e] at h
  by_cases e : op = 9
  · rw [if_pos e] at h; subst e; exact made_9_wrong S A l.length c m.1 m.2.1 m.2.2.1 m.2.2.2.1 m.2.2.2.2.1 m.2.2.2.2.2 x.f0 x.f1 W (fun W1 hB hz => makes_of act_point.good (9, l, m) x h _ A c W1 (kids_on hk hB) (mS_lt hS hz)) (right_of hr)
  rw [if_neg e] at h
  by_cases e : op = 10
  · rw [if_pos e] at h; subst e; exact made_10_wrong S A l.length c m.1 m.2.1 m.2.2.1 m.2.2.2.1 m.2.2.2.2.1 m.2.2.2.2.2 x.f0 x.f1 W (fun W1 hB hz => makes_of act_group.good (10, l, m) x h _ A c W1 (kids_on hk hB) (mS_lt hS hz)) (right_of hr)
  rw [if_neg e] at h
  by_cases e : op = 11
  · rw [if_pos e] at h; subst e; exact made_11_wrong S A l.length c m.1 m.2.1 m.2.2.1 m.2.2.2.1 m.2.2.2.2.1 m.2.2.2.2.2 x.f0 x.f1 W (fun W1 hB hz => makes_of act_negative.good (11, l, m) x h _ A c W1 (kids_on hk hB) (mS_lt hS hz)) (right_of hr)
  rw [if_neg e] at h
  by_cases e : op = 12
  · rw [if_pos e] at h; subst e; exact made_12_wrong S A l.length c m.1 m.2.1 m.2.2.1 m.2.2.2.1 m.2.2.2.2.1 m.2.2.2.2.2 x.f0 x.f1 W (fun W1 hB hz => makes_of act_money.good (12, l, m) x h _ A c W1 (kids_on hk hB) (mS_lt hS hz)) (right_of hr)
  rw [if_neg e] at h
  by_cases e : op = 13
  · rw [if_pos e] at h; subst e; exact made_13_wrong S A l.length c m.1 m.2.1 m.2.2.1 m.2.2.2.1 m.2.2.2.2.1 m.2.2.2.2.2 x.f0 x.f1 W (fun W1 hB hz => makes_of act_duration.good (13, l, m) x h _ A c W1 (kids_on hk hB) (mS_lt hS hz)) (right_of hr)
  rw [if_neg e] at h
  by_cases e : op = 14
  · rw [if_pos e] at h; subst e; exact made_14_wrong S A l.length c m.1 m.2.1 m.2.2.1 m.2.2.2.1 m.2.2.2.2.1 m.2.2.2.2.2 x.f0 x.f1 W (fun W1 hB hz => makes_of act_sum.good (14, l, m) x h _ A c W1 (kids_on hk hB) (mS_lt hS hz)) (right_of hr)
  rw [if_neg e] at h
  by_cases e : op = 15
  · rw [if_pos e] at h; subst e; exact made_15_wrong S A l.length c m.1 m.2.1 m.2.2.1 m.2.2.2.1 m.2.2.2.2.1 m.2.2.2.2.2 x.f0 x.f1 W (fun W1 hB hz => makes_of act_span.good (15, l, m) x h _ A c W1 (kids_on hk hB) (mS_lt hS hz)) (right_of hr)
  rw [if_neg e] at h
  cases h
theorem made_dies {S : Sc} {op : Int} {l : List S27} {m : Mom} {A : Option Addr} {c : Nat} {W : World} (h : meth op l m = some none) (hk : SlV S W (.slice A l.length c) l) (hS : ∀ b, S.bad b → b < W.heap.size) : Calls Try.prog 41 #[.agg #[.int .i64 op, .slice A l.length c, .int .i64 m.1, .int .i64 m.2.1, .int .i64 m.2.2.1, .int .i64 m.2.2.2.1, .int .i64 m.2.2.2.2.1, .int .i64 m.2.2.2.2.2]] W (Dies W) := by
  unfold meth at h
  by_cases e : op = 1
  · rw [if_pos e] at h; subst e; exact made_1_no A l.length c m.1 m.2.1 m.2.2.1 m.2.2.2.1 m.2.2.2.2.1 m.2.2.2.2.2 W (fun W1 hB _ => dies_of act_date.good (1, l, m) h free A c W1 (sv_free (kids_on hk hB)) (fun _ h => h.elim))
  rw [if_neg e] at h
  by_cases e : op = 2
  · rw [if_pos e] at h; subst e; exact made_2_no A l.length c m.1 m.2.1 m.2.2.1 m.2.2.2.1 m.2.2.2.2.1 m.2.2.2.2.2 W (fun W1 hB _ => dies_of act_this.good (2, l, m) h free A c W1 (sv_free (kids_on hk hB)) (fun _ h => h.elim))
  rw [if_neg e] at h
  by_cases e : op = 3
  · rw [if_pos e] at h; subst e; exact made_3_no A l.length c m.1 m.2.1 m.2.2.1 m.2.2.2.1 m.2.2.2.2.1 m.2.2.2.2.2 W (fun W1 hB _ => dies_of act_mtime.good (3, l, m) h free A c W1 (sv_free (kids_on hk hB)) (fun _ h => h.elim))
  rw [if_neg e] at h
  by_cases e : op = 4
  · rw [if_pos e] at h; subst e; exact made_4_no A l.length c m.1 m.2.1 m.2.2.1 m.2.2.2.1 m.2.2.2.2.1 m.2.2.2.2.2 W (fun W1 hB _ => dies_of act_half.good (4, l, m) h free A c W1 (sv_free (kids_on hk hB)) (fun _ h => h.elim))
  rw [if_neg e] at h
  by_cases e : op = 5
  · rw [if_pos e] at h; subst e; exact made_5_no A l.length c m.1 m.2.1 m.2.2.1 m.2.2.2.1 m.2.2.2.2.1 m.2.2.2.2.2 W (fun W1 hB _ => dies_of act_moment.good (5, l, m) h free A c W1 (sv_free (kids_on hk hB)) (fun _ h => h.elim))
  rw [if_neg e] at h
  by_cases e : op = 6
  · rw [if_pos e] at h; subst e; exact made_6_no A l.length c m.1 m.2.1 m.2.2.1 m.2.2.2.1 m.2.2.2.2.1 m.2.2.2.2.2 W (fun W1 hB _ => dies_of act_relative.good (6, l, m) h free A c W1 (sv_free (kids_on hk hB)) (fun _ h => h.elim))
  rw [if_neg e] at h
  by_cases e : op = 7
  · rw [if_pos e] at h; subst e; exact made_7_no A l.length c m.1 m.2.1 m.2.2.1 m.2.2.2.1 m.2.2.2.2.1 m.2.2.2.2.2 W (fun W1 hB _ => dies_of act_next.good (7, l, m) h free A c W1 (sv_free (kids_on hk hB)) (fun _ h => h.elim))
  rw [if_neg e] at h
  by_cases e : op = 8
  · rw [if_pos e] at h; subst e; exact made_8_no A l.length c m.1 m.2.1 m.2.2.1 m.2.2.2.1 m.2.2.2.2.1 m.2.2.2.2.2 W (fun W1 hB _ => dies_of act_whole.good (8, l, m) h free A c W1 (sv_free (kids_on hk hB)) (fun _ h => h.elim))
  rw [if_neg e] at h
  by_cases e : op = 9
  · rw [if_pos e] at h; subst e; exact made_9_no A l.length c m.1 m.2.1 m.2.2.1 m.2.2.2.1 m.2.2.2.2.1 m.2.2.2.2.2 W (fun W1 hB _ => dies_of act_point.good (9, l, m) h free A c W1 (sv_free (kids_on hk hB)) (fun _ h => h.elim))
  rw [if_neg e] at h
  by_cases e : op = 10
  · rw [if_pos e] at h; subst e; exact made_10_no A l.length c m.1 m.2.1 m.2.2.1 m.2.2.2.1 m.2.2.2.2.1 m.2.2.2.2.2 W (fun W1 hB _ => dies_of act_group.good (10, l, m) h free A c W1 (sv_free (kids_on hk hB)) (fun _ h => h.elim))
  rw [if_neg e] at h
  by_cases e : op = 11
  · rw [if_pos e] at h; subst e; exact made_11_no A l.length c m.1 m.2.1 m.2.2.1 m.2.2.2.1 m.2.2.2.2.1 m.2.2.2.2.2 W (fun W1 hB _ => dies_of act_negative.good (11, l, m) h free A c W1 (sv_free (kids_on hk hB)) (fun _ h => h.elim))
  rw [if_neg e] at h
  by_cases e : op = 12
  · rw [if_pos e] at h; subst e; exact made_12_no A l.length c m.1 m.2.1 m.2.2.1 m.2.2.2.1 m.2.2.2.2.1 m.2.2.2.2.2 W (fun W1 hB _ => dies_of act_money.good (12, l, m) h free A c W1 (sv_free (kids_on hk hB)) (fun _ h => h.elim))
  rw [if_neg e] at h
  by_cases e : op = 13
  · rw [if_pos e] at h; subst e; exact made_13_no A l.length c m.1 m.2.1 m.2.2.1 m.2.2.2.1 m.2.2.2.2.1 m.2.2.2.2.2 W (fun W1 hB _ => dies_of act_duration.good (13, l, m) h free A c W1 (sv_free (kids_on hk hB)) (fun _ h => h.elim))
  rw [if_neg e] at h
  by_cases e : op = 14
  · rw [if_pos e] at h; subst e; exact made_14_no A l.length c m.1 m.2.1 m.2.2.1 m.2.2.2.1 m.2.2.2.2.1 m.2.2.2.2.2 W (fun W1 hB _ => dies_of act_sum.good (14, l, m) h free A c W1 (sv_free (kids_on hk hB)) (fun _ h => h.elim))
  rw [if_neg e] at h
  by_cases e : op = 15
  · rw [if_pos e] at h; subst e; exact made_15_no A l.length c m.1 m.2.1 m.2.2.1 m.2.2.2.1 m.2.2.2.2.1 m.2.2.2.2.2 W (fun W1 hB _ => dies_of act_span.good (15, l, m) h free A c W1 (sv_free (kids_on hk hB)) (fun _ h => h.elim))
  rw [if_neg e] at h
  cases h
end Do
open Do
/-- Do, as it answers. -/
noncomputable def act_Do.F (a : S27 × List S27 × Mom) : Option (S27 × Bool) :=
  if a.1.f1.length ≤ 1000000 ∧ (∀ p ∈ a.1.f1, 0 ≤ p ∧ p < (a.2.1.length : Int)) then
    if a.1.f0 = 0 then (if a.1.f1.length = 1 ∧ (rd_T27 a.2.1 (rd a.1.f1 0)).f1.length ≤ 1000000 then some (rd_T27 a.2.1 (rd a.1.f1 0), true) else none)
    else (meth a.1.f0 (a.1.f1.map (rd_T27 a.2.1)) a.2.2).bind fun o => om o (some (⟨0, []⟩, false)) fun x => (act_Right.F x).bind fun b => bm b (some (x, true)) (some (⟨0, []⟩, false))
  else none
theorem act_Do.good : Good 22 (sp (oc s1 (oc sV (o1 sM))) (oc s1 (o1 sB)) act_Do.F) := good_of _ _ _ (fn := Try.f22) (by kernel_rfl) (by kernel_rfl) (by kernel_rfl) fun a b hF S w args hS ha => by
  obtain ⟨⟨op, P⟩, l, m⟩ := a
  obtain ⟨vs⟩ := args
  match vs, ha with
  | [v1, v2, v3], ⟨⟨a1, e1, r1⟩, hv2, ⟨a3, e3, r3⟩, _⟩ =>
    subst e1 e3
    obtain rfl := arr_M a3 r3
    obtain ⟨l1⟩ := a1
    match l1, r1 with
    | [u, s], ⟨hu, hs, _⟩ =>
      obtain rfl : u = .int .i64 op := hu
      obtain ⟨A, c, rfl, q1, q2⟩ := hs.1.kd
      have hv := hv2.1
      obtain ⟨Al, cl, rfl, _⟩ := hv
      have hv := hv2.1
      unfold act_Do.F at hF
      split at hF
      case isFalse => cases hF
      case isTrue hc =>
      obtain ⟨hsz, hin0⟩ := hc
      have hin : ∀ j : Int, 0 ≤ j → j < P.length → 0 ≤ rd P j ∧ rd P j < l.length := by
        intro j h0 h1
        refine hin0 _ ?_
        unfold rd
        rw [List.getD_eq_getElem?_getD, List.getElem?_eq_getElem (by omega)]
        exact List.getElem_mem _
      have nothing : (∀ W A2 c2, Below w.heap.size w W → w.heap.size + 5 ≤ W.heap.size → SlV (dS S w) W (.slice A2 P.length c2) (P.map (rd_T27 l)) → Calls Try.prog 41 #[.agg #[.int .i64 op, .slice A2 P.length c2, .int .i64 m.1, .int .i64 m.2.1, .int .i64 m.2.2.1, .int .i64 m.2.2.2.1, .int .i64 m.2.2.2.2.1, .int .i64 m.2.2.2.2.2]] W (Do.Dies W)) → op ≠ 0 → Calls Try.prog 22 #[.agg #[.int .i64 op, .slice A P.length c], .slice Al l.length cl, .agg #[.int .i64 m.1, .int .i64 m.2.1, .int .i64 m.2.2.1, .int .i64 m.2.2.2.1, .int .i64 m.2.2.2.2.1, .int .i64 m.2.2.2.2.2]] w (Post S w (.ret (packD ((oc s1 (o1 sB)).enc (⟨0, []⟩, false))))) := fun hm hop =>
        (do_no S op A c P Al cl l m.1 m.2.1 m.2.2.1 m.2.2.2.1 m.2.2.2.2.1 m.2.2.2.2.2 w hS q2 hv hin hop hsz hm).mono fun e w' ⟨he, hb⟩ => ⟨⟨_, he, _, rfl, ⟨_, rfl, rfl, ⟨⟨none, 0, rfl, Nat.le_refl _, Nat.zero_le _, fun h => absurd h (Nat.lt_irrefl 0)⟩, nofalse⟩, trivial⟩, rfl, trivial⟩, hb⟩
      have gives : ∀ x : S27, Calls Try.prog 22 #[.agg #[.int .i64 op, .slice A P.length c], .slice Al l.length cl, .agg #[.int .i64 m.1, .int .i64 m.2.1, .int .i64 m.2.2.1, .int .i64 m.2.2.2.1, .int .i64 m.2.2.2.2.1, .int .i64 m.2.2.2.2.2]] w (GivesS S w x.f0 x.f1) → Calls Try.prog 22 #[.agg #[.int .i64 op, .slice A P.length c], .slice Al l.length cl, .agg #[.int .i64 m.1, .int .i64 m.2.1, .int .i64 m.2.2.1, .int .i64 m.2.2.2.1, .int .i64 m.2.2.2.2.1, .int .i64 m.2.2.2.2.2]] w (Post S w (.ret (packD ((oc s1 (o1 sB)).enc (x, true))))) := fun x hx =>
        hx.mono fun e w' ⟨v, he, hs, hb⟩ => ⟨⟨_, he, _, rfl, ⟨_, rfl, rfl, ⟨hs, nofalse⟩, trivial⟩, rfl, trivial⟩, hb⟩
      have hlen : (P.map (rd_T27 l)).length = P.length := by simp
      replace hF : (if op = 0 then (if P.length = 1 ∧ (rd_T27 l (rd P 0)).f1.length ≤ 1000000 then some (rd_T27 l (rd P 0), true) else none) else (meth op (P.map (rd_T27 l)) m).bind fun o => om o (some (⟨0, []⟩, false)) fun x => (act_Right.F x).bind fun b => bm b (some (x, true)) (some (⟨0, []⟩, false))) = some b := hF
      by_cases hop : op = 0
      · rw [if_pos hop] at hF
        by_cases h1 : P.length = 1 ∧ (rd_T27 l (rd P 0)).f1.length ≤ 1000000
        · rw [if_pos h1] at hF
          obtain rfl := Option.some.inj hF
          exact gives _ (do_pick S A c P Al cl l m.1 m.2.1 m.2.2.1 m.2.2.2.1 m.2.2.2.2.1 m.2.2.2.2.2 op w hS q2 hv hin hop h1.1 h1.2)
        · rw [if_neg h1] at hF; cases hF
      · rw [if_neg hop] at hF
        obtain ⟨o, ho, hF⟩ := Option.bind_eq_some_iff.mp hF
        cases o with
        | none =>
          obtain rfl := Option.some.inj (show some ((⟨0, []⟩ : S27), false) = some b from hF)
          refine nothing (fun W A2 c2 hB hz hk => ?_) hop
          have := made_dies (A := A2) (c := c2) (W := W) ho (by rw [hlen]; exact hk) (dS_lt hS hz)
          rwa [hlen] at this
        | some x =>
          replace hF : ((act_Right.F x).bind fun b => bm b (some (x, true)) (some (⟨0, []⟩, false))) = some b := hF
          obtain ⟨q, hq, hF⟩ := Option.bind_eq_some_iff.mp hF
          cases q with
          | true =>
            obtain rfl := Option.some.inj (show some (x, true) = some b from hF)
            refine gives x (do_ok S op A c P Al cl l m.1 m.2.1 m.2.2.1 m.2.2.2.1 m.2.2.2.2.1 m.2.2.2.2.2 x.f0 x.f1 w hS q2 hv hin hop hsz (fun W A2 c2 hB hz hk => ?_))
            have := made_gives (A := A2) (c := c2) (W := W) ho hq (by rw [hlen]; exact hk) (dS_lt hS hz)
            rwa [hlen] at this
          | false =>
            obtain rfl := Option.some.inj (show some ((⟨0, []⟩ : S27), false) = some b from hF)
            refine nothing (fun W A2 c2 hB hz hk => ?_) hop
            have := made_wrong (A := A2) (c := c2) (W := W) ho hq (by rw [hlen]; exact hk) (dS_lt hS hz)
            rwa [hlen] at this
end Ev
end Go.Proofs.Ytldfljlklfhjkaa.PE
