/- An evaluator of a function's code over plain values: what is appended, and where it lies. Conditions: each theorem's own. -/
import Derived.Test.YtldfljlklfhjkaaEvM1
namespace Go.Proofs.Ytldfljlklfhjkaa.PE
open Go.RowKit Go.Proofs.YtldfljlklfhjkaaW.PrintWords Go.Proofs.YtldfljlklfhjkaaW.PrintLast Go.Proofs.YtldfljlklfhjkaaW.PrintMore
set_option linter.unusedVariables false
set_option linter.unusedSimpArgs false
namespace Ev
section
variable {S : Sc} {ρ : Nat → Nat} {tm : Nat → D} {bv : Nat → Option BoxC} {ov : Nat → Option Row} {B : Nat} {a : Act} {w : World} {o : Oper} {k : D → Eff → Res} {kd : Res} {r : Out} {K : Act → World → Prop} {Q : Exit → Act → World → Prop} {Γ : Ctx}
/-- A row that may grow: one of the call's own, or an empty one with no room. -/
def OwnX (w : World) (B : Nat) (e size : Nat) (v : Value) (n : Nat) (xs : List Value) : Prop := (∃ A, v = .slice A 0 0 ∧ n = 0 ∧ xs = []) ∨ w.ownsRow B e size v n xs
theorem OwnX.slice {e size n : Nat} {v : Value} {xs : List Value} (h : OwnX w B e size v n xs) : ∃ A c, v = .slice A n c ∧ n ≤ c ∧ (c = 0 → n = 0 ∧ xs = []) ∧ (c ≠ 0 → w.ownsRow B e size v n xs ∧ ∃ g, v = .slice (some ⟨g, 0, none⟩) n c ∧ B ≤ g ∧ g < w.heap.size) := by
  rcases h with ⟨A, rfl, rfl, rfl⟩ | h
  · exact ⟨A, 0, rfl, Nat.le_refl _, fun _ => ⟨rfl, rfl⟩, fun h => absurd rfl h⟩
  · have h0 := h
    obtain ⟨h1, h2⟩ := h
    rcases h2 with ⟨rfl, rfl⟩ | ⟨g, cap, cur, rfl, hb, hg, hc, _⟩
    · exact ⟨none, 0, rfl, Nat.le_refl _, fun _ => ⟨rfl, List.eq_nil_of_length_eq_zero (by simpa using h1)⟩, fun h => absurd rfl h⟩
    · refine ⟨_, cap, rfl, hc, fun e0 => ?_, fun _ => ⟨h0, g, rfl, hb, blk_lt hg⟩⟩
      have hn : n = 0 := by omega
      exact ⟨hn, List.eq_nil_of_length_eq_zero (by rw [h1, hn, Nat.zero_mul])⟩
structure TyA (t e size bytes : Nat) (z : Value) : Prop where
  ht : Try.prog.underlying t = some (.slice e)
  hi : ∃ i, Try.prog.info? e = some i ∧ i.zero = some z ∧ i.size = size ∧ i.bytes = bytes
  hz : z.cells.size = size
  h0 : 0 < size
  hb : bytes ≤ 32
theorem ty22 : TyA 22 3 1 8 (.int .i64 0) := ⟨u22, by
  have h : (Try.prog.info? 3).map (fun i => (i.zero, i.size, i.bytes)) = some (some (.int .i64 0), 1, 8) := by kernel_rfl
  obtain ⟨i, h1, h2⟩ := Option.map_eq_some_iff.1 h
  simp only [Prod.mk.injEq] at h2
  exact ⟨i, h1, h2.1, h2.2.1, h2.2.2⟩, rfl, by decide, by decide⟩
theorem ty24 : TyA 24 27 2 32 (.agg #[.int .i64 0, .slice none 0 0]) := ⟨u24, by
  have h : (Try.prog.info? 27).map (fun i => (i.zero, i.size, i.bytes)) = some (some (.agg #[.int .i64 0, .slice none 0 0]), 2, 32) := by kernel_rfl
  obtain ⟨i, h1, h2⟩ := Option.map_eq_some_iff.1 h
  simp only [Prod.mk.injEq] at h2
  exact ⟨i, h1, h2.1, h2.2.1, h2.2.2⟩, rfl, by decide, by decide⟩
/-- Nothing is appended. -/
theorem run_app0 {t e size bytes : Nat} {z : Value} (T : TyA t e size bytes z) (ty : Nat) (A A' : Option Addr) (n c c' : Nat) (hn : n ≤ c) : (Builtin.append_ #[t, t] ty #[.slice A n c, .slice A' 0 c']).run Try.prog w = .ok (.slice A n c) w := by
  obtain ⟨i, hi, hi0, hi1, hi2⟩ := T.hi
  have hf : ∀ A' : Option Addr, (Builtin.firstCells i.size 0 (.slice A' 0 c')).run Try.prog w = .ok #[] w := fun A' => by
    cases A' with
    | none => rfl
    | some a => simp [Builtin.firstCells, loadCells, loadCellsFrom]
  cases A with
  | none => simp [Builtin.append_, run_underlying T.ht, sizeOf, typeInfo, hi, Builtin.lenOf, hn, hf, Result.andThen]
  | some a => simp [Builtin.append_, run_underlying T.ht, sizeOf, typeInfo, hi, Builtin.lenOf, hn, hf, storeCells, Result.andThen]
theorem run_app {t e size bytes : Nat} {z : Value} (T : TyA t e size bytes z) (ty : Nat) {v : Value} {n : Nat} {xs : List Value} (h : OwnX w B e size v n xs) (hB : B ≤ w.heap.size) (A' : Option Addr) (m c' : Nat) (news : List Value) (hl : news.length = m * size)
    (hnews : 0 < m → ∃ ad, A' = some ad ∧ ∀ j u, news[j]? = some u → w.cell? (ad.add j) = some u) (h1 : ∀ u ∈ news, u.oneCell' = true) (hlen : n + m ≤ 1000000) :
    ∃ v' w', (Builtin.append_ #[t, t] ty #[v, .slice A' m c']).run Try.prog w = .ok v' w' ∧ OwnX w' B e size v' (n + m) (xs ++ news) ∧ w.grownBy w' (ownB v) ∧ ∀ b, ownB v' = some b → w.heap.size ≤ b ∧ b < w'.heap.size ∨ ownB v = some b := by
  obtain ⟨A, c, hv, hnc, h0, hown⟩ := h.slice
  by_cases hm : m = 0
  · subst hm
    obtain rfl : news = [] := List.eq_nil_of_length_eq_zero (by simpa using hl)
    refine ⟨v, w, by rw [hv]; exact run_app0 T ty A A' n c c' hnc, by simpa using h, ⟨rfl, rfl, rfl, Nat.le_refl _, fun _ _ _ => rfl⟩, fun b hb => .inr hb⟩
  · obtain ⟨ad, rfl, hn⟩ := hnews (by omega)
    obtain ⟨i, hi, hi0, hi1, hi2⟩ := T.hi
    have hbytes : (n + m) * bytes ≤ 140737488355328 := Nat.le_trans (Nat.mul_le_mul hlen T.hb) (by decide)
    have hm0 : 0 < m := Nat.pos_of_ne_zero hm
    have hmI : (m : Int) ≤ 9223372036854775807 := by clear hnews hn hnc h0 hown hl; omega
    have hmI' : ((0 + m : Nat) : Int) ≤ 9223372036854775807 := by clear hnews hn hnc h0 hown hl; omega
    by_cases hc : c = 0
    · obtain ⟨rfl, rfl⟩ := h0 hc
      subst hc
      have hnil := World.ownsRow_nil w B e size
      obtain ⟨v', w', r1, r2, r3, r4, r5⟩ := run_append_own_at (P := Try.prog) w B t ty e i z size bytes T.ht hi hi0 hi1 hi2 T.hz T.h0 _ 0 [] hnil ad m c' news hl hn h1 (by simp only [maxLen]; omega) hbytes hB
      have r1' := run_append_nil (P := Try.prog) w t ty e i z T.ht hi hi0 ad m c' news (by rw [hi1]; exact hl) hn hm0 hmI (by rw [hi2]; rw [Nat.zero_add] at hbytes; exact Nat.le_trans hbytes (by decide))
      rw [r1] at r1'
      injection r1' with e1 e2
      have hrun : (Builtin.append_ #[t, t] ty #[v, .slice (some ad) m c']).run Try.prog w = .ok v' w' := by
        rw [hv]
        cases A with
        | none => exact r1
        | some b =>
          rw [run_append_grow (P := Try.prog) w t ty e i z T.ht hi hi0 b 0 0 [] (by simp) (fun j u hj => by simp at hj) ad m c' news (by rw [hi1]; exact hl) hn (by rw [Nat.zero_add]; exact hm0) hmI' (by rw [hi2]; exact growslice_fits (by rw [Nat.zero_add]; exact hm0) hbytes), e1, e2]
          simp
      refine ⟨v', w', hrun, .inr r2, ?_, fun b hb => .inl ?_⟩
      · have : ownB v = none := by rw [hv]; unfold ownB; cases A <;> simp
        rw [this]; exact r3
      · have hvb : v'.ownBlock = some b := by
          unfold ownB at hb
          split at hb
          · split at hb
            · cases hb
            · exact hb
          · cases hb
        rcases r5 with r5 | r5
        · rw [hvb] at r5; cases r5
        · rw [hvb] at r5
          obtain rfl := Option.some.inj r5
          refine ⟨Nat.le_refl _, ?_⟩
          exact (own_lt r2 _ hvb)
    · obtain ⟨ho, g, hvg, hBg, hgl⟩ := hown hc
      obtain ⟨v', w', r1, r2, r3, r4, r5⟩ := run_append_own_at (P := Try.prog) w B t ty e i z size bytes T.ht hi hi0 hi1 hi2 T.hz T.h0 _ n xs ho ad m c' news hl hn h1 (by simp only [maxLen]; omega) hbytes hB
      have hob : ownB v = v.ownBlock := by rw [hvg]; unfold ownB Value.ownBlock; simp [hc]
      refine ⟨v', w', r1, .inr r2, by rw [hob]; exact r3, fun b hb => ?_⟩
      have hvb : v'.ownBlock = some b := by
        unfold ownB at hb
        split at hb
        · split at hb
          · cases hb
          · exact hb
        · cases hb
      rcases r5 with r5 | r5
      · exact .inr (by rw [hob, ← r5]; exact hvb)
      · rw [hvb] at r5
        obtain rfl := Option.some.inj r5
        exact .inl ⟨Nat.le_refl _, own_lt r2 _ hvb⟩
/-! ### What may be appended to, what is -/
theorem head_ok (h : Env S B ρ tm bv ov a w) {t : Nat} {x : Operand} {old : Option Nat} {r : Row} (e : headR t ov (evD tm x) = some (old, r)) : OwnR S w B (a.eval x) r ∧ (∀ u, old = some u → a.eval x = S.val u ∧ ov u = some r) ∧ (old = none → ownB (a.eval x) = none) := by
  unfold headR at e
  split at e
  · rename_i ex
    have e := Option.some.inj e
    simp only [Prod.mk.injEq] at e
    obtain ⟨rfl, rfl⟩ := e
    obtain ⟨⟨A, c, hx, _⟩, ht⟩ := h.one_ ex
    obtain ⟨A', n, hx'⟩ := ht rfl
    rw [hx] at hx'
    injection hx' with _ e1 e2
    simp at e1
    subst e1; subst e2
    exact ⟨by split <;> exact .inl ⟨A, hx, rfl⟩, fun u hu => (by cases hu), fun _ => by rw [hx]; unfold ownB; cases A <;> simp⟩
  · rename_i ex
    have e := Option.some.inj e
    simp only [Prod.mk.injEq] at e
    obtain ⟨rfl, rfl⟩ := e
    obtain ⟨⟨A, c, hx, _⟩, ht⟩ := h.one_ ex
    obtain ⟨A', n, hx'⟩ := ht rfl
    rw [hx] at hx'
    injection hx' with _ e1 e2
    simp at e1
    subst e1; subst e2
    exact ⟨.inl ⟨A, hx, rfl⟩, fun u hu => (by cases hu), fun _ => by rw [hx]; unfold ownB; cases A <;> simp⟩
  · rename_i t' ex
    obtain ⟨r', hr, e⟩ := Option.map_eq_some_iff.1 e
    simp only [Prod.mk.injEq] at e
    obtain ⟨rfl, rfl⟩ := e
    obtain ⟨hx, _⟩ := h.one_ ex
    rw [hx]
    exact ⟨(h.ow t' _ hr).1, fun u hu => (by obtain rfl := Option.some.inj hu; exact ⟨rfl, hr⟩), fun hn => (by cases hn)⟩
  · cases e
theorem tail_ints (h : Env S B ρ tm bv ov a w) {x : Operand} {m : List Int} (e : tailR ov (evD tm x) = some (.ints m)) : ∃ A c, a.eval x = .slice A m.length c ∧ (0 < m.length → ∃ ad, A = some ad ∧ ∀ j u, (m.map (Value.int .i64))[j]? = some u → w.cell? (ad.add j) = some u) := by
  unfold tailR at e
  split at e
  · rename_i b l ex
    have e := Option.some.inj e
    injection e with e
    subst e
    obtain ⟨A, c, hx, _, _, h3⟩ := (h.one_ ex).1
    refine ⟨A, c, hx, fun hl => ?_⟩
    obtain ⟨ad, rfl, _, _, hc⟩ := h3 hl
    refine ⟨ad, rfl, fun j u hj => ?_⟩
    rw [List.getElem?_map] at hj
    obtain ⟨y, hy, rfl⟩ := Option.map_eq_some_iff.1 hj
    exact hc j y hy
  · cases e
  · rename_i t ex
    obtain ⟨hx, A, n, c, hv⟩ := h.one_ ex
    have hO := (h.ow t _ e).1
    rcases hO with ⟨A', e1, rfl⟩ | hO
    · exact ⟨A', 0, hx.trans e1, fun hl => absurd hl (by simp)⟩
    · rcases hO.2 with ⟨e1, e2⟩ | ⟨g, cap, cur, e1, _⟩
      · exact ⟨none, 0, by rw [hx, e1, e2], fun hl => absurd hl (by omega)⟩
      · refine ⟨_, cap, hx.trans e1, fun hl => ⟨_, rfl, fun j u hj => ?_⟩⟩
        exact hO.cells (g := g) (by rw [e1]; rfl) j u hj
  · cases e
theorem tail_vals (h : Env S B ρ tm bv ov a w) {x : Operand} {m : List S27} (e : tailR ov (evD tm x) = some (.vals m)) : ∃ A c news, a.eval x = .slice A m.length c ∧ news.length = m.length * 2 ∧ ElV S w news m ∧ (0 < m.length → ∃ ad, A = some ad ∧ ∀ j u, news[j]? = some u → w.cell? (ad.add j) = some u) := by
  have of_cells : ∀ ad : Addr, (∀ (j : Nat) (x : S27), m[j]? = some x → w.cell? (ad.add (j * 2)) = some (.int .i64 x.f0) ∧ ∃ v, w.cell? (ad.add (j * 2 + 1)) = some v ∧ SlI S w v x.f1) →
      ∃ news : List Value, news.length = m.length * 2 ∧ ElV S w news m ∧ ∀ j u, news[j]? = some u → w.cell? (ad.add j) = some u := by
    intro ad hc
    have hall : ∀ k, k < m.length * 2 → ∃ u, w.cell? (ad.add k) = some u := by
      intro k hk
      obtain ⟨x, hx⟩ : ∃ x, m[k / 2]? = some x := ⟨_, List.getElem?_eq_getElem (by omega)⟩
      obtain ⟨g1, v, g2, _⟩ := hc _ x hx
      rcases (by omega : k = k / 2 * 2 ∨ k = k / 2 * 2 + 1) with e | e
      · rw [e]; exact ⟨_, g1⟩
      · rw [e]; exact ⟨_, g2⟩
    refine ⟨(List.range (m.length * 2)).map (fun k => (w.cell? (ad.add k)).getD undef), by simp, fun j x hj => ?_, fun j u hj => ?_⟩
    · have hjl := (List.getElem?_eq_some_iff.1 hj).1
      obtain ⟨g1, v, g2, g3⟩ := hc j x hj
      refine ⟨?_, v, ?_, g3⟩
      · rw [List.getElem?_map, List.getElem?_range (by omega), Option.map_some, g1]; rfl
      · rw [List.getElem?_map, List.getElem?_range (by omega), Option.map_some, g2]; rfl
    · rw [List.getElem?_map] at hj
      obtain ⟨k, hk, rfl⟩ := Option.map_eq_some_iff.1 hj
      have hkl := (List.getElem?_eq_some_iff.1 hk)
      obtain ⟨h1, h2⟩ := hkl
      simp at h1 h2
      subst h2
      obtain ⟨u, hu⟩ := hall j h1
      rw [hu]; rfl
  unfold tailR at e
  split at e
  · cases e
  · rename_i b l ex
    have e := Option.some.inj e
    injection e with e
    subst e
    obtain ⟨A, c, hx, _, _, h3⟩ := (h.one_ ex).1
    by_cases hl : 0 < l.length
    · obtain ⟨ad, rfl, _, _, hc⟩ := h3 hl
      obtain ⟨news, h1, h2, h4⟩ := of_cells ad hc
      exact ⟨_, c, news, hx, h1, h2, fun _ => ⟨ad, rfl, h4⟩⟩
    · obtain rfl : l = [] := List.eq_nil_of_length_eq_zero (by omega)
      exact ⟨A, c, [], hx, by simp, fun j x hj => by simp at hj, fun h => absurd h (by simp)⟩
  · rename_i t ex
    obtain ⟨hx, A, n, c, hv⟩ := h.one_ ex
    have hO := (h.ow t _ e).1
    rcases hO with ⟨A', e1, rfl⟩ | ⟨xs, hO, he⟩
    · exact ⟨A', 0, [], hx.trans e1, by simp, fun j x hj => by simp at hj, fun hl => absurd hl (by simp)⟩
    · rcases hO.2 with ⟨e1, e2⟩ | ⟨g, cap, cur, e1, _⟩
      · obtain rfl : m = [] := List.eq_nil_of_length_eq_zero e2
        exact ⟨none, 0, [], by rw [hx, e1]; rfl, by simp, fun j x hj => by simp at hj, fun hl => absurd hl (by simp)⟩
      · refine ⟨_, cap, xs, hx.trans e1, hO.1, he, fun hl => ⟨_, rfl, fun j u hj => ?_⟩⟩
        exact hO.cells (g := g) (by rw [e1]; rfl) j u hj
  · cases e
theorem ElV.mv {S' : Sc} {w' : World} (h : Mv S S' w w') {xs : List Value} {l : List S27} (he : ElV S w xs l) : ElV S' w' xs l := fun j x hj => by
  obtain ⟨g1, u, g2, g3⟩ := he j x hj
  exact ⟨g1, u, g2, g3.mv h⟩
theorem ElV.app {xs ys : List Value} {l m : List S27} (hx : xs.length = l.length * 2) (h1 : ElV S w xs l) (h2 : ElV S w ys m) : ElV S w (xs ++ ys) (l ++ m) := fun j x hj => by
  rcases Nat.lt_or_ge j l.length with hl | hl
  · rw [List.getElem?_append_left hl] at hj
    obtain ⟨g1, u, g2, g3⟩ := h1 j x hj
    exact ⟨by rw [List.getElem?_append_left (by omega)]; exact g1, u, by rw [List.getElem?_append_left (by omega)]; exact g2, g3⟩
  · rw [List.getElem?_append_right hl] at hj
    obtain ⟨g1, u, g2, g3⟩ := h2 _ x hj
    refine ⟨?_, u, ?_, g3⟩
    · rw [List.getElem?_append_right (by omega), show j * 2 - xs.length = (j - l.length) * 2 by omega]; exact g1
    · rw [List.getElem?_append_right (by omega), show j * 2 + 1 - xs.length = (j - l.length) * 2 + 1 by omega]; exact g2
theorem ElV.one {xs : List Value} {l : List S27} (hx : xs.length = l.length * 2) (h : ElV S w xs l) : ∀ u ∈ xs, u.oneCell' = true := by
  intro u hu
  obtain ⟨k, hk⟩ := List.getElem?_of_mem hu
  have hkl := (List.getElem?_eq_some_iff.1 hk).1
  obtain ⟨x, hj⟩ : ∃ x, l[k / 2]? = some x := ⟨_, List.getElem?_eq_getElem (by omega)⟩
  obtain ⟨g1, v, g2, A, c, g3, _⟩ := h _ x hj
  rcases (by omega : k = k / 2 * 2 ∨ k = k / 2 * 2 + 1) with e | e
  · rw [e, g1] at hk; obtain rfl := Option.some.inj hk; rfl
  · rw [e, g2] at hk; obtain rfl := Option.some.inj hk; rw [g3]; rfl
theorem OwnR.cap0 {S : Sc} {w : World} {B : Nat} {v : Value} {r : Row} (h : OwnR S w B v r) (hb : ownB v = none) : ∃ A, v = .slice A 0 0 ∧ (r = .ints [] ∨ r = .vals []) := by
  cases r with
  | ints l =>
    rcases h with ⟨A, e, rfl⟩ | h
    · exact ⟨A, e, .inl rfl⟩
    · rcases h.2 with ⟨e1, e2⟩ | ⟨g, cap, cur, e1, _, _, e2, _⟩
      · exact ⟨none, e1, .inl (by rw [List.eq_nil_of_length_eq_zero e2])⟩
      · rw [e1] at hb
        unfold ownB at hb
        simp only at hb
        split at hb
        · rename_i hc
          subst hc
          have hl : l.length = 0 := by omega
          refine ⟨_, by rw [e1, hl], .inl (by rw [List.eq_nil_of_length_eq_zero hl])⟩
        · cases hb
  | vals l =>
    rcases h with ⟨A, e, rfl⟩ | ⟨xs, h, _⟩
    · exact ⟨A, e, .inr rfl⟩
    · rcases h.2 with ⟨e1, e2⟩ | ⟨g, cap, cur, e1, _, _, e2, _⟩
      · exact ⟨none, e1, .inr (by rw [List.eq_nil_of_length_eq_zero e2])⟩
      · rw [e1] at hb
        unfold ownB at hb
        simp only at hb
        split at hb
        · rename_i hc
          subst hc
          have hl : l.length = 0 := by omega
          refine ⟨_, by rw [e1, hl], .inr (by rw [List.eq_nil_of_length_eq_zero hl])⟩
        · cases hb
noncomputable def rowC : Row → Ce
  | .ints l => .ints false l
  | .vals l => .vals false l
theorem own_rep {S : Sc} {w : World} {B : Nat} {v : Value} {r : Row} (h : OwnR S w B v r) {S' : Sc} (hm : Mv S S' w w) (hb : ∀ b, ownB v = some b → ¬ S'.bad b) : RepC S' w v (rowC r) := by
  cases hv : ownB v with
  | none =>
    obtain ⟨A, rfl, rfl | rfl⟩ := h.cap0 hv
    · exact ⟨⟨A, 0, rfl, Nat.le_refl _, by simp, fun h => absurd h (by simp)⟩, nofalse⟩
    · exact ⟨⟨A, 0, rfl, Nat.le_refl _, by simp, fun h => absurd h (by simp)⟩, nofalse⟩
  | some b =>
    have hb := hb b hv
    cases r with
    | ints l =>
      rcases h with ⟨A, rfl, _⟩ | h
      · cases A <;> simp [ownB] at hv
      · have h0 := h.2
        rcases h0 with ⟨e, _⟩ | ⟨g, cap, cur, e, _, _, h1, h2, _⟩
        · rw [e] at hv; simp [ownB] at hv
        · subst e
          have hc : cap ≠ 0 := by intro e; rw [e] at hv; simp [ownB] at hv
          rw [ownB_lit hc] at hv
          obtain rfl := Option.some.inj hv
          obtain ⟨_, hcell⟩ := own_ints (S := S) (.inr h) rfl hc
          simp only [maxLen] at h2
          refine ⟨⟨_, cap, rfl, h1, by omega, fun _ => ⟨_, rfl, rfl, hb, fun j x hj => ?_⟩⟩, nofalse⟩
          have hadd : (⟨g, 0, none⟩ : Addr).add j = ⟨g, j, none⟩ := by unfold Addr.add; split <;> simp_all
          rw [hadd]; exact hcell j x hj
    | vals l =>
      rcases h with ⟨A, rfl, _⟩ | ⟨xs, h, he⟩
      · cases A <;> simp [ownB] at hv
      · have h0 := h.2
        rcases h0 with ⟨e, _⟩ | ⟨g, cap, cur, e, _, _, h1, h2, _⟩
        · rw [e] at hv; simp [ownB] at hv
        · subst e
          have hc : cap ≠ 0 := by intro e; rw [e] at hv; simp [ownB] at hv
          rw [ownB_lit hc] at hv
          obtain rfl := Option.some.inj hv
          obtain ⟨_, hcell⟩ := own_vals (S := S) (.inr ⟨xs, h, he⟩) rfl hc
          simp only [maxLen] at h2
          refine ⟨⟨_, cap, rfl, h1, by omega, fun _ => ⟨_, rfl, rfl, hb, fun j x hj => ?_⟩⟩, nofalse⟩
          have hadd : ∀ j, (⟨g, 0, none⟩ : Addr).add j = ⟨g, j, none⟩ := by intro j; unfold Addr.add; split <;> simp_all
          rw [hadd, hadd]
          obtain ⟨g1, u, g2, g3⟩ := hcell j x hj
          exact ⟨g1, u, g2, g3.mv hm⟩
theorem OwnN.to {q : Nat → Prop} {S S' : Sc} {w w' : World} {B : Nat} {v : Value} {r : Row} (hm : Mvp q S S' w w') (h : OwnN S w w' B v r) : OwnR S' w' B v r := by
  cases r with
  | ints l => exact h
  | vals l =>
    rcases h with h | ⟨xs, h, he⟩
    · exact .inl h
    · exact .inr ⟨xs, h, fun j x hj => by
        obtain ⟨g1, u, g2, g3⟩ := he j x hj
        exact ⟨g1, u, g2, g3.mv hm⟩⟩
theorem op_append (h : Env S B ρ tm bv ov a w) (c : Call) (hcal : c.callee = .builtin .append) (ho : o.op = .call c) (hd : denOp Γ tm bv ov o.dst (.call c) k kd = some r) (hK : KOk S B ρ bv ov a w o k r K) : o.wp Try.prog a w K Q := by
  obtain ⟨callee, args, argTypes⟩ := c
  simp only at hcal
  subst hcal
  simp only [denOp] at hd
  split at hd
  · rename_i x y t u d hargs htys hdst
    have ha : args = #[x, y] := by cases args; simp at hargs; subst hargs; rfl
    have ht : argTypes = #[t, u] := by cases argTypes; simp at htys; subst htys; rfl
    subst ha; subst ht
    split at hd
    · rename_i htu
      subst htu
      have fin : ∀ {old : Option Nat} {rx rr : Row} {v' : Value} {w' : World}, headR t ov (evD tm x) = some (old, rx) → (Builtin.append_ #[t, t] o.type #[a.eval x, a.eval y]).run Try.prog w = .ok v' w' → OwnN S w w' B v' rr → (∃ A n c, v' = .slice A n c) → w.grownBy w' (ownB (a.eval x)) → (∀ b, ownB v' = some b → w.heap.size ≤ b ∧ b < w'.heap.size ∨ ownB (a.eval x) = some b) → (if (old.isSome || Γ.ow.contains d) = true then k (.one (.ce (.own d))) (.app old rr) else k (.one (.ce (rowC rr))) .none) = some r → o.wp Try.prog a w K Q := by
        intro old rx rr v' w' hh hrun hO hsl hg hb hk
        obtain ⟨_, h2, h3⟩ := head_ok h hh
        split at hk
        rotate_left
        · rename_i hcond
          have hno : old = none := by cases old with
            | none => rfl
            | some _ => simp at hcond
          have hnb := h3 hno
          rw [hnb] at hg hb
          have hbel : Below w.heap.size w w' := ⟨hg.os, hg.tape, hg.output, hg.size, fun k hk => hg.block k hk (fun e => by cases e)⟩
          refine wp_val (w' := w') (v := v') ?_ (hK _ _ _ _ hk ⟨hbel, own_rep (hO.to (mv_below h.base hbel)) ⟨Nat.le_refl _, fun _ _ _ => rfl, fun _ _ h => h, fun _ _ => rfl⟩ (fun b hb' hbad => ?_)⟩)
          · simp [execOp, ho, resolve, invoke, builtin, hrun, Result.andThen]
          · rcases hb b hb' with hb | hb
            · have := h.base b hbad; omega
            · cases hb
        refine wp_val (w' := w') (v := v') ?_ (hK _ _ _ _ hk ⟨d, hdst, rfl, fun u hu => ⟨_, (h2 u hu).2⟩, hO, hsl, ?_, fun b hb' => ?_⟩)
        · simp [execOp, ho, resolve, invoke, builtin, hrun, Result.andThen]
        · cases old with
          | none => rw [h3 rfl] at hg; exact hg
          | some u => rw [(h2 u rfl).1] at hg; exact hg
        · rcases hb b hb' with hb | hb
          · exact .inl hb
          · cases old with
            | none => rw [h3 rfl] at hb; cases hb
            | some u => rw [(h2 u rfl).1] at hb; exact .inr ⟨u, rfl, hb⟩
      split at hd
      · rename_i old l m hh ht
        split at hd
        · rename_i ht'; subst ht'
          split at hd
          · rename_i hlen
            obtain ⟨h1, h2, h3⟩ := head_ok h hh
            obtain ⟨A, c, hy, hcell⟩ := tail_ints h ht
            have hX : OwnX w B 3 1 (a.eval x) l.length (l.map (Value.int .i64)) := by
              rcases h1 with ⟨A, e, rfl⟩ | h1
              · exact .inl ⟨A, e, rfl, rfl⟩
              · exact .inr h1
            obtain ⟨v', w', r1, r2, r3, r4⟩ := run_app ty22 o.type hX h.size A m.length c (m.map (Value.int .i64)) (by simp) hcell (fun u hu => by obtain ⟨y, _, rfl⟩ := List.mem_map.1 hu; rfl) hlen
            obtain ⟨A2, c2, hv2, _⟩ := r2.slice
            refine fin hh (by rw [hy]; exact r1) ?_ ⟨A2, _, c2, hv2⟩ r3 r4 hd
            rcases r2 with ⟨A3, e1, e2, e3⟩ | r2
            · refine .inl ⟨A3, e1, List.eq_nil_of_length_eq_zero (by simpa using e2)⟩
            · refine .inr ?_
              rw [List.length_append, List.map_append]; exact r2
          · cases hd
        · cases hd
      · rename_i old l m hh ht
        split at hd
        · rename_i ht'; subst ht'
          split at hd
          · rename_i hlen
            obtain ⟨h1, h2, h3⟩ := head_ok h hh
            obtain ⟨A, c, news, hy, hnl, hne, hcell⟩ := tail_vals h ht
            obtain ⟨xs, hX, hxl, hxe⟩ : ∃ xs, OwnX w B 27 2 (a.eval x) l.length xs ∧ xs.length = l.length * 2 ∧ ElV S w xs l := by
              rcases h1 with ⟨A, e, rfl⟩ | ⟨xs, h1, he⟩
              · exact ⟨[], .inl ⟨A, e, rfl, rfl⟩, by simp, fun j x hj => by simp at hj⟩
              · exact ⟨xs, .inr h1, h1.1, he⟩
            obtain ⟨v', w', r1, r2, r3, r4⟩ := run_app ty24 o.type hX h.size A m.length c news hnl hcell (hne.one hnl) hlen
            obtain ⟨A2, c2, hv2, _⟩ := r2.slice
            refine fin hh (by rw [hy]; exact r1) ?_ ⟨A2, _, c2, hv2⟩ r3 r4 hd
            rcases r2 with ⟨A3, e1, e2, e3⟩ | r2
            · refine .inl ⟨A3, e1, List.eq_nil_of_length_eq_zero (by simpa using e2)⟩
            · refine .inr ⟨xs ++ news, ?_, ElV.app hxl hxe hne⟩
              rw [List.length_append]; exact r2
          · cases hd
        · cases hd
      · cases hd
    · cases hd
  · cases hd
end
section
variable {S : Sc} {ρ : Nat → Nat} {tm : Nat → D} {bv : Nat → Option BoxC} {ov : Nat → Option Row} {B : Nat} {a : Act} {w : World} {o : Oper} {k : D → Eff → Res} {kd : Res} {r : Out} {K : Act → World → Prop} {Q : Exit → Act → World → Prop} {Γ : Ctx}
/-- What a way that dies is asked. -/
def DOk (w : World) (kd : Res) (r : Out) (Q : Exit → Act → World → Prop) (a : Act) : Prop :=
  kd = some r → ∀ (u : TypeId) (pv : Value) (w' : World), Below w.heap.size w w' → Q (.panic [{ v := .iface u pv, recovered := false }]) a w'
theorem RepD.any_rho {S : Sc} {w : World} {ρ ρ' : Nat → Nat} {v : Value} {d : D} (h : RepD S w ρ v d) (hb : d.isBox = false) : RepD S w ρ' v d := by
  cases d <;> first | exact h | cases hb
theorem own_len_i {v : Value} {l : List Int} (h : OwnR S w B v (.ints l)) : ∃ A c, v = .slice A l.length c := by
  rcases h with ⟨A, e, rfl⟩ | h
  · exact ⟨A, 0, e⟩
  · rcases h.2 with ⟨e1, e2⟩ | ⟨g, cap, cur, e1, _⟩
    · exact ⟨none, 0, by rw [e1, e2]⟩
    · exact ⟨_, cap, e1⟩
theorem own_len_v {v : Value} {l : List S27} (h : OwnR S w B v (.vals l)) : ∃ A c, v = .slice A l.length c := by
  rcases h with ⟨A, e, rfl⟩ | ⟨xs, h, _⟩
  · exact ⟨A, 0, e⟩
  · rcases h.2 with ⟨e1, e2⟩ | ⟨g, cap, cur, e1, _⟩
    · exact ⟨none, 0, by rw [e1, e2]⟩
    · exact ⟨_, cap, e1⟩
theorem op_call (hΓ : Ok Γ) (h : Env S B ρ tm bv ov a w) (c : Call) (ho : o.op = .call c) (hd : denOp Γ tm bv ov o.dst (.call c) k kd = some r) (hK : KOk S B ρ bv ov a w o k r K) (hD : DOk w kd r Q a) : o.wp Try.prog a w K Q := by
  obtain ⟨callee, args, argTypes⟩ := c
  simp only [denOp] at hd
  split at hd
  · split at hd
    · rename_i x t hargs htys
      have ha : args = #[x] := by cases args; simp at hargs; subst hargs; rfl
      have ht : argTypes = #[t] := by cases argTypes; simp at htys; subst htys; rfl
      subst ha; subst ht
      split at hd
      · rename_i b0 l ex
        split at hd
        · rename_i ht; subst ht
          obtain ⟨A, c, hx, g1, g2, g3⟩ := (h.one_ ex).1
          exact op_val hK hd rfl (by simp [execOp, ho, resolve, invoke, builtin, Builtin.len_, hx, run_underlying u22, goInt, Result.andThen])
        · cases hd
      · rename_i b0 l ex
        split at hd
        · rename_i ht; subst ht
          obtain ⟨A, c, hx, g1, g2, g3⟩ := (h.one_ ex).1
          exact op_val hK hd rfl (by simp [execOp, ho, resolve, invoke, builtin, Builtin.len_, hx, run_underlying u24, goInt, Result.andThen])
        · cases hd
      · rename_i u ex
        obtain ⟨hx, _⟩ := h.one_ ex
        split at hd
        · rename_i l hu
          split at hd
          · rename_i ht; subst ht
            obtain ⟨A, c, hv⟩ := own_len_i (h.ow u _ hu).1
            exact op_val hK hd rfl (by simp [execOp, ho, resolve, invoke, builtin, Builtin.len_, hx, hv, run_underlying u22, goInt, Result.andThen])
          · cases hd
        · rename_i l hu
          split at hd
          · rename_i ht; subst ht
            obtain ⟨A, c, hv⟩ := own_len_v (h.ow u _ hu).1
            exact op_val hK hd rfl (by simp [execOp, ho, resolve, invoke, builtin, Builtin.len_, hx, hv, run_underlying u24, goInt, Result.andThen])
          · cases hd
        · cases hd
      · cases hd
    · cases hd
  · exact op_append (Γ := Γ) (kd := kd) h ⟨_, args, argTypes⟩ rfl ho (by simp only [denOp]; exact hd) hK
  · split at hd
    · rename_i x y hargs
      have ha : args = #[x, y] := by cases args; simp at hargs; subst hargs; rfl
      subst ha
      split at hd
      · rename_i na nb ex ey
        have vx := h.num_ ex
        have vy := h.num_ ey
        split at hd <;> rename_i hc <;> exact op_val hK hd rfl (by simp [execOp, ho, resolve, invoke, builtin, max_two, max2_int, vx, vy, hc, Result.andThen])
      · cases hd
    · cases hd
  · split at hd
    · rename_i x y hargs
      have ha : args = #[x, y] := by cases args; simp at hargs; subst hargs; rfl
      subst ha
      split at hd
      · rename_i na nb ex ey
        have vx := h.num_ ex
        have vy := h.num_ ey
        split at hd <;> rename_i hc <;> exact op_val hK hd rfl (by simp [execOp, ho, resolve, invoke, builtin, min_two, min2_int, vx, vy, hc, Result.andThen])
      · cases hd
    · cases hd
  · rename_i fo f
    split at hd
    · rename_i sp hsp
      have hg := hΓ _ (lookup_mem' hsp)
      obtain ⟨fn, hf1, hf2, hf3⟩ := hg.fn
      have hrun : (execOp a.eval o).run Try.prog w = .ok (.enter f (args.map a.eval)) w := by
        have he := enters_ hf1 hf2 hf3 (args.map a.eval) w
        unfold execOp
        simp [ho, resolve, Deferred.ofValue, invoke, Act.eval, he]
      split at hd
      · rename_i ds hds
        obtain ⟨out, hk, _, hcalls⟩ := hg.calls _ _ _ hd
        have call := hcalls S w (args.map a.eval) h.base (by rw [Array.toList_map]; exact args_rep h _ ds hds)
        unfold Oper.wp
        rw [hrun, Oper.upon_enter]
        refine call.mono ?_
        cases out with
        | dies =>
          rintro e w' ⟨⟨u, pv, rfl⟩, hb⟩
          exact hD hk u pv w' hb
        | ret d =>
          rintro e w' ⟨⟨v, rfl, hr⟩, hb⟩
          cases d with
          | one d => exact hK (.one d) .none v w' (split1_is (k := fun d => k (.one d) .none) hk) ⟨hb, RepD.any_rho hr rfl⟩
          | tup l => exact hK (.tup l) .none v w' (splitL_is (k := fun l => k (.tup l) .none) hk) ⟨hb, RepD.any_rho hr rfl⟩
          | _ => cases hk
      · cases hd
    · cases hd
  · cases hd
theorem op_ok (hΓ : Ok Γ) (h : Env S B ρ tm bv ov a w) (hd : denOp Γ tm bv ov o.dst o.op k kd = some r) (hK : KOk S B ρ bv ov a w o k r K) (hD : DOk w kd r Q a) : o.wp Try.prog a w K Q := by
  generalize ho : o.op = op at hd
  cases op with
  | move x => exact op_move h x (.inl ho) hd hK
  | assign x => exact op_move h x (.inr ho) hd hK
  | pick c x y => exact op_pick h c x y ho hd hK
  | alloc t => exact op_alloc t ho hd hK
  | box t x => exact op_box h t x ho hd hK
  | build t parts => exact op_build h t parts ho hd hK
  | buildSlice t n parts => exact op_buildSlice h t n parts ho hd hK
  | load t x => exact op_load h t x ho hd hK
  | store t x y => exact op_store h t x y ho hd hK
  | binOp op t x y ty => exact op_bin h op t x y ty ho hd hK
  | unOp op t x => exact op_un h op t x ho hd hK
  | fieldAddr t x f => exact op_fieldAddr h t x f ho hd hK
  | field t x f => exact op_field h t x f ho hd hK
  | indexAddr t x y => exact op_indexAddr h t x y ho hd hK
  | slice t x lo hi mx => exact op_slice h t x lo hi mx ho hd hK
  | extract x i => exact op_extract h x i ho hd hK
  | call c => exact op_call hΓ h c ho hd hK hD
  | _ => cases hd
end
structure St where
  tm : List D
  bx : List (Nat × BoxC)
  ow : List (Nat × Row)
noncomputable def St.tmF (s : St) (i : Nat) : D := s.tm.getD i .any
noncomputable def St.bvF (s : St) (t : Nat) : Option BoxC := s.bx.lookup t
noncomputable def St.ovF (s : St) (t : Nat) : Option Row := s.ow.lookup t
noncomputable def kill (t : Nat) (d : D) : D := match d with
  | .box u off => if u = t then .any else .box u off
  | d => d
noncomputable def setBx (t : Nat) (b : BoxC) (l : List (Nat × BoxC)) : List (Nat × BoxC) := l.map fun p => if p.1 = t then (t, b) else p
noncomputable def setOw (t : Nat) (b : Row) (l : List (Nat × Row)) : List (Nat × Row) := l.map fun p => if p.1 = t then (t, b) else p
noncomputable def hasBx (t : Nat) : List (Nat × BoxC) → Bool
  | [] => false
  | (u, _) :: r => if u = t then true else hasBx t r
noncomputable def putT (dst : Option Nat) (d : D) (l : List D) : List D := match dst with
  | some t => l.set t d
  | none => l
/-- Rows that are no more. -/
noncomputable def isK (t : Nat) (old : Option Nat) (u : Nat) : Bool := u == t || old == some u
noncomputable def killC (k : Nat → Bool) (c : Ce) : Ce := match c with
  | .own u => if k u = true then .any else .own u
  | c => c
noncomputable def kill1 (k : Nat → Bool) (d : D1) : D1 := match d with
  | .ce c => .ce (killC k c)
  | .agg cs => .agg (cs.map (killC k))
noncomputable def killD (k : Nat → Bool) (d : D) : D := match d with
  | .one d => .one (kill1 k d)
  | .tup l => .tup (l.map (kill1 k))
  | .eoi t i => if k t = true then .any else .eoi t i
  | .eov t i off => if k t = true then .any else .eov t i off
  | d => d
noncomputable def killB (k : Nat → Bool) (l : List (Nat × BoxC)) : List (Nat × BoxC) := l.map fun p => (p.1, ⟨p.2.ty, p.2.cs.map (killC k)⟩)
/-- An operation is done: its slot, the call's variables, its rows. -/
noncomputable def St.next (s : St) (dst : Option Nat) (d : D) (eff : Eff) : St :=
  match eff with
  | .none => ⟨putT dst d s.tm, s.bx, s.ow⟩
  | .new b => match dst with
    | some t => ⟨(s.tm.map (kill t)).set t d, if hasBx t s.bx = true then setBx t b s.bx else (t, b) :: s.bx, s.ow⟩
    | none => s
  | .put t b => ⟨putT dst d s.tm, setBx t b s.bx, s.ow⟩
  | .app old r => match dst with
    | some t => ⟨(s.tm.map (killD (isK t old))).set t d, killB (isK t old) s.bx, (t, r) :: s.ow.filter fun p => !isK t old p.1⟩
    | none => s
  | .set t r => ⟨putT dst d s.tm, s.bx, setOw t r s.ow⟩
def Sof (S0 : Sc) (ρ : Nat → Nat) (ν : Nat → Value) (bx : List (Nat × BoxC)) (ow : List (Nat × Row)) : Sc :=
  ⟨fun b => S0.bad b ∨ (∃ t c, (t, c) ∈ bx ∧ ρ t = b) ∨ ∃ t r, (t, r) ∈ ow ∧ ownB (ν t) = some b, ν⟩
structure Rep (S0 : Sc) (w0 : World) (ρ : Nat → Nat) (ν : Nat → Value) (s : St) (a : Act) (w : World) : Prop where
  below : Below w0.heap.size w0 w
  base : ∀ b, S0.bad b → b < w0.heap.size
  defers : a.defers = []
  size : s.tm.length = a.tmps.size
  tm : ∀ i, RepD (Sof S0 ρ ν s.bx s.ow) w ρ (a.tmps.getD i undef) (s.tmF i)
  bx : ∀ t b, (t, b) ∈ s.bx → w0.heap.size ≤ ρ t ∧ ∃ arr, w.heap[ρ t]? = some (.cells arr b.ty (0, 0)) ∧ All2 (RepC (Sof S0 ρ ν s.bx s.ow) w) arr.toList b.cs
  ow : ∀ t r, (t, r) ∈ s.ow → OwnR (Sof S0 ρ ν s.bx s.ow) w w0.heap.size (ν t) r ∧ ∀ b, ownB (ν t) = some b → w0.heap.size ≤ b ∧ b < w.heap.size
  inj : ∀ t u b c, (t, b) ∈ s.bx → (u, c) ∈ s.bx → ρ t = ρ u → t = u
  keys : ∀ t b c, (t, b) ∈ s.bx → (t, c) ∈ s.bx → b = c
  injO : ∀ t u r q b, (t, r) ∈ s.ow → (u, q) ∈ s.ow → ownB (ν t) = some b → ownB (ν u) = some b → t = u
  injB : ∀ t r u c b, (t, r) ∈ s.ow → (u, c) ∈ s.bx → ownB (ν t) = some b → ρ u ≠ b
  keysO : ∀ t r q, (t, r) ∈ s.ow → (t, q) ∈ s.ow → r = q
theorem lookup_mem2 {α : Type} {l : List (Nat × α)} {t : Nat} {x : α} (h : l.lookup t = some x) : (t, x) ∈ l := lookup_mem' h
section
variable {S0 : Sc} {w0 : World} {ρ : Nat → Nat} {ν : Nat → Value} {s : St} {a : Act} {w : World}
theorem Rep.lt (h : Rep S0 w0 ρ ν s a w) : ∀ b, (Sof S0 ρ ν s.bx s.ow).bad b → b < w.heap.size := by
  rintro b (hb | ⟨t, c, ht, rfl⟩ | ⟨t, r, ht, hb⟩)
  · exact Nat.lt_of_lt_of_le (h.base b hb) h.below.size
  · obtain ⟨_, arr, h1, _⟩ := h.bx t c ht
    exact (Array.getElem?_eq_some_iff.1 h1).1
  · exact ((h.ow t r ht).2 b hb).2
theorem Rep.env (h : Rep S0 w0 ρ ν s a w) : Env (Sof S0 ρ ν s.bx s.ow) w0.heap.size ρ s.tmF s.bvF s.ovF a w where
  base := h.lt
  tm := h.tm
  bx := fun t b hb => ⟨.inr (.inl ⟨t, b, lookup_mem' hb, rfl⟩), (h.bx t b (lookup_mem' hb)).2⟩
  ow := fun t r hr => ⟨(h.ow t r (lookup_mem2 hr)).1, fun b hb => .inr (.inr ⟨t, r, lookup_mem2 hr, hb⟩)⟩
  size := h.below.size
theorem put_get (a : Act) (dst : Option Nat) (v : Value) (l : List D) (d : D) (i : Nat) (hs : l.length = a.tmps.size) :
    (a.put dst v).tmps.getD i undef = (if dst = some i ∧ i < a.tmps.size then v else a.tmps.getD i undef) ∧ (putT dst d l).getD i .any = (if dst = some i ∧ i < a.tmps.size then d else l.getD i .any) := by
  cases dst with
  | none => simp [Act.put, putT]
  | some t =>
    simp only [Act.put, putT, Option.some.injEq]
    constructor
    · rw [Array.getD_eq_getD_getElem?, Array.getElem?_setIfInBounds]
      by_cases h : t = i
      · subst h
        by_cases h2 : t < a.tmps.size
        · simp [h2]
        · simp [h2]
      · simp [h]
    · rw [List.getD_eq_getElem?_getD, List.getElem?_set]
      by_cases h : t = i
      · subst h
        by_cases h2 : t < a.tmps.size
        · simp [h2, hs]
        · simp [h2, hs]
      · simp [h]
theorem put_size (a : Act) (dst : Option Nat) (v : Value) : (a.put dst v).tmps.size = a.tmps.size := by cases dst <;> simp [Act.put]
theorem put_defers (a : Act) (dst : Option Nat) (v : Value) : (a.put dst v).defers = a.defers := by cases dst <;> rfl
theorem putT_len (dst : Option Nat) (d : D) (l : List D) : (putT dst d l).length = l.length := by cases dst <;> simp [putT]
theorem map_getD (f : D → D) (hf : f .any = .any) (l : List D) (i : Nat) : (l.map f).getD i .any = f (l.getD i .any) := by
  rw [List.getD_eq_getElem?_getD, List.getD_eq_getElem?_getD, List.getElem?_map]
  cases l[i]? with
  | none => exact hf.symm
  | some x => rfl
theorem setBx_mem {t : Nat} {b : BoxC} {l : List (Nat × BoxC)} {u : Nat} {c : BoxC} (h : (u, c) ∈ setBx t b l) : u = t ∧ c = b ∧ (∃ c', (t, c') ∈ l) ∨ u ≠ t ∧ (u, c) ∈ l := by
  obtain ⟨⟨x, y⟩, h1, h2⟩ := List.mem_map.1 h
  simp only at h2
  split at h2
  · rename_i hx
    subst hx
    simp only [Prod.mk.injEq] at h2
    exact .inl ⟨h2.1.symm, h2.2.symm, y, h1⟩
  · rename_i hx
    simp only [Prod.mk.injEq] at h2
    obtain ⟨rfl, rfl⟩ := h2
    exact .inr ⟨hx, h1⟩
theorem setOw_mem {t : Nat} {b : Row} {l : List (Nat × Row)} {u : Nat} {c : Row} (h : (u, c) ∈ setOw t b l) : u = t ∧ c = b ∧ (∃ c', (t, c') ∈ l) ∨ u ≠ t ∧ (u, c) ∈ l := by
  obtain ⟨⟨x, y⟩, h1, h2⟩ := List.mem_map.1 h
  simp only at h2
  split at h2
  · rename_i hx
    subst hx
    simp only [Prod.mk.injEq] at h2
    exact .inl ⟨h2.1.symm, h2.2.symm, y, h1⟩
  · rename_i hx
    simp only [Prod.mk.injEq] at h2
    obtain ⟨rfl, rfl⟩ := h2
    exact .inr ⟨hx, h1⟩
theorem hasBx_no {t : Nat} : ∀ {l : List (Nat × BoxC)}, hasBx t l = false → ∀ b, (t, b) ∉ l
  | [], _, b, h => by cases h
  | (u, c) :: l, h, b, hm => by
    unfold hasBx at h
    split at h
    · cases h
    · rename_i hu
      rcases List.mem_cons.1 hm with hm | hm
      · simp only [Prod.mk.injEq] at hm; exact hu hm.1.symm
      · exact hasBx_no h b hm
theorem mv_setRow {S : Sc} {w : World} {g : Nat} {arr : Array Value} (hg : S.bad g) : Mv S S w (w.setRow g arr) :=
  ⟨by simp, fun b _ hb => setRow_other w g b arr (by rintro rfl; exact hb hg), fun _ _ h => h, fun _ _ => rfl⟩
theorem below_setRow {w0 w : World} {g : Nat} {arr : Array Value} (h : Below w0.heap.size w0 w) (hg : w0.heap.size ≤ g) : Below w0.heap.size w0 (w.setRow g arr) :=
  h.trans ⟨rfl, rfl, rfl, by simp, fun k hk => setRow_other w g k arr (by omega)⟩
/-! ### Rows of the call's own, moved -/
theorem ownB_block {v : Value} {b : Nat} (h : ownB v = some b) : v.ownBlock = some b := by
  unfold ownB at h
  split at h
  · split at h
    · cases h
    · exact h
  · cases h
theorem OwnR.mv {q : Nat → Prop} {S S' : Sc} {w w' : World} {B : Nat} {v : Value} {r : Row} (hm : Mvp q S S' w w') (hb : ∀ b, ownB v = some b → w'.heap[b]? = w.heap[b]?) (h : OwnR S w B v r) : OwnR S' w' B v r := by
  cases hv : ownB v with
  | none =>
    obtain ⟨A, e, rfl | rfl⟩ := h.cap0 hv
    · exact .inl ⟨A, e, rfl⟩
    · exact .inl ⟨A, e, rfl⟩
  | some b =>
    have hblk : ∀ k, v.ownBlock = some k → w'.heap[k]? = w.heap[k]? := fun k hk => by
      rw [ownB_block hv] at hk
      obtain rfl := Option.some.inj hk
      exact hb _ hv
    cases r with
    | ints l =>
      rcases h with ⟨A, e, rfl⟩ | h
      · exact .inl ⟨A, e, rfl⟩
      · exact .inr (own_move h hblk)
    | vals l =>
      rcases h with ⟨A, e, rfl⟩ | ⟨xs, h, he⟩
      · exact .inl ⟨A, e, rfl⟩
      · exact .inr ⟨xs, own_move h hblk, fun j x hj => by
          obtain ⟨g1, u, g2, g3⟩ := he j x hj
          exact ⟨g1, u, g2, g3.mv hm⟩⟩
/-! ### What is no more -/
theorem killC_no (k : Nat → Bool) (c : Ce) : (killC k c).no (fun u => k u = true) := by
  unfold killC
  split
  · split
    · trivial
    · rename_i h; exact h
  · rename_i h
    cases c with
    | own u => exact absurd rfl (h u)
    | _ => trivial
theorem killC_rep {S : Sc} {w : World} (k : Nat → Bool) {v : Value} {c : Ce} (h : RepC S w v c) : RepC S w v (killC k c) := by
  unfold killC
  split
  · split
    · exact RepC.one h
    · exact h
  · exact h
theorem kill1_no (k : Nat → Bool) (d : D1) : (kill1 k d).no (fun u => k u = true) := by
  cases d with
  | ce c => exact killC_no k c
  | agg cs => intro c hc; obtain ⟨c', _, rfl⟩ := List.mem_map.1 hc; exact killC_no k c'
theorem all2_mapr {α β : Type} {R : α → β → Prop} (f : β → β) (hf : ∀ a b, R a b → R a (f b)) : ∀ {l : List α} {m : List β}, All2 R l m → All2 R l (m.map f)
  | [], [], _ => trivial
  | a :: la, b :: lb, ⟨h1, h2⟩ => ⟨hf a b h1, all2_mapr f hf h2⟩
  | [], _ :: _, h => h.elim
  | _ :: _, [], h => h.elim
theorem kill1_rep {S : Sc} {w : World} (k : Nat → Bool) {v : Value} {d : D1} (h : Rep1 S w v d) : Rep1 S w v (kill1 k d) := by
  cases d with
  | ce c => exact killC_rep k h
  | agg cs => obtain ⟨arr, e, h⟩ := h; exact ⟨arr, e, all2_mapr _ (fun _ _ => killC_rep k) h⟩
theorem killD_no (k : Nat → Bool) (d : D) : (killD k d).no (fun u => k u = true) := by
  cases d with
  | one d => exact kill1_no k d
  | tup l => intro c hc; obtain ⟨c', _, rfl⟩ := List.mem_map.1 hc; exact kill1_no k c'
  | eoi t i => unfold killD; simp only; split; trivial; rename_i h; exact h
  | eov t i off => unfold killD; simp only; split; trivial; rename_i h; exact h
  | _ => trivial
theorem killD_rep {S : Sc} {w : World} {ρ : Nat → Nat} (k : Nat → Bool) {v : Value} {d : D} (h : RepD S w ρ v d) : RepD S w ρ v (killD k d) := by
  cases d with
  | one d => exact kill1_rep k h
  | tup l => obtain ⟨vs, e, h⟩ := h; exact ⟨vs, e, all2_mapr _ (fun _ _ => kill1_rep k) h⟩
  | eoi t i => unfold killD; simp only; split; trivial; exact h
  | eov t i off => unfold killD; simp only; split; trivial; exact h
  | _ => exact h
theorem Rep.skip (h : Rep S0 w0 ρ ν s a w) (dst : Option Nat) : Rep S0 w0 ρ ν ⟨putT dst (.tup []) s.tm, s.bx, s.ow⟩ (a.put dst undef) w :=
  ⟨h.below, h.base, by rw [put_defers]; exact h.defers, by rw [putT_len, put_size]; exact h.size, fun i => by
    obtain ⟨e1, e2⟩ := put_get a dst undef s.tm (.tup []) i h.size
    rw [e1]; show RepD _ _ _ _ ((putT dst (.tup []) s.tm).getD i .any); rw [e2]
    split
    · exact ⟨#[], rfl, trivial⟩
    · exact h.tm i, h.bx, h.ow, h.inj, h.keys, h.injO, h.injB, h.keysO⟩
end
section
variable {S0 : Sc} {w0 : World} {ρ : Nat → Nat} {ν : Nat → Value} {s : St} {a : Act} {w : World}
theorem Rep.step_none (h : Rep S0 w0 ρ ν s a w) {dst : Option Nat} {d : D} {v : Value} {w' : World} (hb : Below w.heap.size w w') (hr : RepD (Sof S0 ρ ν s.bx s.ow) w' ρ v d) : Rep S0 w0 ρ ν (s.next dst d .none) (a.put dst v) w' := by
  have mv := mv_below h.env.base hb
  refine ⟨h.below.trans (hb.mono h.below.size), h.base, by rw [put_defers]; exact h.defers, by show (putT dst d s.tm).length = _; rw [putT_len, put_size]; exact h.size, fun i => ?_, fun t b ht => ?_, fun t r ht => ?_, h.inj, h.keys, h.injO, h.injB, h.keysO⟩
  · obtain ⟨e1, e2⟩ := put_get a dst v s.tm d i h.size
    rw [e1]; show RepD _ _ _ _ ((putT dst d s.tm).getD i .any); rw [e2]
    split
    · exact hr
    · exact (h.tm i).mv mv (fun _ _ _ => rfl)
  · obtain ⟨h1, arr, h2, h3⟩ := h.bx t b ht
    exact ⟨h1, arr, blk_below h2 hb, h3.mv mv⟩
  · obtain ⟨h1, h2⟩ := h.ow t r ht
    exact ⟨h1.mv mv (fun b hb' => hb.block b (h2 b hb').2), fun b hb' => ⟨(h2 b hb').1, Nat.lt_of_lt_of_le (h2 b hb').2 hb.size⟩⟩
theorem Rep.step_put (h : Rep S0 w0 ρ ν s a w) {dst : Option Nat} {t : Nat} {b : BoxC} {v : Value} {arr old : Array Value} {c : BoxC} (hc : s.bvF t = some c) (h1 : w.heap[ρ t]? = some (.cells old b.ty (0, 0))) (h2 : All2 (RepC (Sof S0 ρ ν s.bx s.ow) w) arr.toList b.cs) : Rep S0 w0 ρ ν (s.next dst .any (.put t b)) (a.put dst v) (w.setRow (ρ t) arr) := by
  have hm := lookup_mem' hc
  have hin : (Sof S0 ρ ν s.bx s.ow).bad (ρ t) := .inr (.inl ⟨t, c, hm, rfl⟩)
  have hbase := (h.bx t c hm).1
  have mv0 : Mv (Sof S0 ρ ν s.bx s.ow) (Sof S0 ρ ν s.bx s.ow) w (w.setRow (ρ t) arr) := mv_setRow hin
  have old_of : ∀ u c', (u, c') ∈ setBx t b s.bx → ∃ c2, (u, c2) ∈ s.bx := fun u c' hu => by
    rcases setBx_mem hu with ⟨rfl, _, c2, h3⟩ | ⟨_, h3⟩
    · exact ⟨c2, h3⟩
    · exact ⟨c', h3⟩
  have mv : Mv (Sof S0 ρ ν s.bx s.ow) (Sof S0 ρ ν (setBx t b s.bx) s.ow) w (w.setRow (ρ t) arr) := ⟨mv0.size, mv0.block, fun x _ hx => by
    rcases hx with hx | ⟨u, c', hu, rfl⟩ | hx
    · exact .inl hx
    · obtain ⟨c2, h3⟩ := old_of u c' hu
      exact .inr (.inl ⟨u, c2, h3, rfl⟩)
    · exact .inr (.inr hx), fun _ _ => rfl⟩
  refine ⟨below_setRow h.below hbase, h.base, by rw [put_defers]; exact h.defers, by show (putT dst .any s.tm).length = _; rw [putT_len, put_size]; exact h.size, fun i => ?_, fun u c' hu => ?_, fun u r hu => ?_, fun u u' c1 c2 hu hu' he => ?_, fun u c1 c2 hu hu' => ?_, h.injO, fun u r u' c' b' hu hu' he => ?_, h.keysO⟩
  · obtain ⟨e1, e2⟩ := put_get a dst v s.tm .any i h.size
    rw [e1]; show RepD _ _ _ _ ((putT dst .any s.tm).getD i .any); rw [e2]
    split
    · trivial
    · exact (h.tm i).mv mv (fun _ _ _ => rfl)
  · rcases setBx_mem hu with ⟨rfl, rfl, _⟩ | ⟨hne, hu'⟩
    · exact ⟨hbase, arr, setRow_heap w _ old arr _ _ h1, h2.mv mv⟩
    · obtain ⟨g1, arr', g2, g3⟩ := h.bx u c' hu'
      exact ⟨g1, arr', (setRow_other w _ _ arr (fun he => hne (h.inj u t c' c hu' hm he))).trans g2, g3.mv mv⟩
  · obtain ⟨g1, g2⟩ := h.ow u r hu
    refine ⟨g1.mv mv (fun b' hb' => setRow_other w _ _ arr (fun e => h.injB u r t c b' hu hm hb' e.symm)), fun b' hb' => ⟨(g2 b' hb').1, by rw [setRow_size]; exact (g2 b' hb').2⟩⟩
  · obtain ⟨c3, h3⟩ := old_of u c1 hu
    obtain ⟨c4, h4⟩ := old_of u' c2 hu'
    exact h.inj u u' c3 c4 h3 h4 he
  · rcases setBx_mem hu with ⟨rfl, rfl, _⟩ | ⟨hne, h3⟩
    · rcases setBx_mem hu' with ⟨_, rfl, _⟩ | ⟨hne, h4⟩
      · rfl
      · exact absurd rfl hne
    · rcases setBx_mem hu' with ⟨rfl, _⟩ | ⟨_, h4⟩
      · exact absurd rfl hne
      · exact h.keys u c1 c2 h3 h4
  · obtain ⟨c3, h3⟩ := old_of u' c' hu'
    exact h.injB u r u' c3 b' hu h3 he
theorem Rep.step_new (h : Rep S0 w0 ρ ν s a w) {t : Nat} {b : BoxC} {arr : Array Value} (h2 : All2 (RepC (Sof S0 ρ ν s.bx s.ow) w) arr.toList b.cs) :
    ∃ ρ', Rep S0 w0 ρ' ν (s.next (some t) (.box t 0) (.new b)) (a.put (some t) (.pointer (some ⟨w.heap.size, 0, none⟩))) (w.alloc (.cells arr b.ty)) := by
  have hlt := h.lt
  let ρ' : Nat → Nat := fun u => if u = t then w.heap.size else ρ u
  have ρt : ρ' t = w.heap.size := if_pos rfl
  have ρo : ∀ u, u ≠ t → ρ' u = ρ u := fun u hu => if_neg hu
  obtain ⟨bx', hbx', two⟩ : ∃ bx', s.next (some t) (.box t 0) (.new b) = ⟨(s.tm.map (kill t)).set t (.box t 0), bx', s.ow⟩ ∧ ∀ u c', (u, c') ∈ bx' → u = t ∧ c' = b ∨ u ≠ t ∧ (u, c') ∈ s.bx := by
    by_cases hk : hasBx t s.bx = true
    · refine ⟨setBx t b s.bx, by simp only [St.next, hk, if_true], fun u c' hu => ?_⟩
      rcases setBx_mem hu with ⟨h1, h2, _⟩ | h3
      · exact .inl ⟨h1, h2⟩
      · exact .inr h3
    · have hk : hasBx t s.bx = false := by simpa using hk
      refine ⟨(t, b) :: s.bx, by simp [St.next, hk], fun u c' hu => ?_⟩
      rcases List.mem_cons.1 hu with hu | hu
      · simp only [Prod.mk.injEq] at hu; exact .inl hu
      · exact .inr ⟨fun e => hasBx_no hk c' (e ▸ hu), hu⟩
  rw [hbx']
  have mv : Mv (Sof S0 ρ ν s.bx s.ow) (Sof S0 ρ' ν bx' s.ow) w (w.alloc (.cells arr b.ty)) := ⟨by simp, fun x hx _ => Below.heap_alloc w _ x hx, fun x hx hs => by
    rcases hs with hs | ⟨u, c', hu, rfl⟩ | hs
    · exact .inl hs
    · rcases two u c' hu with ⟨rfl, _⟩ | ⟨hne, h3⟩
      · rw [ρt] at hx; omega
      · exact .inr (.inl ⟨u, c', h3, (ρo u hne).symm⟩)
    · exact .inr (.inr hs), fun _ _ => rfl⟩
  refine ⟨ρ', below_alloc h.below _, h.base, h.defers, by simp [Act.put, h.size], fun i => ?_, fun u c' hu => ?_, fun u r hu => ?_, fun u u' c1 c2 hu hu' he => ?_, fun u c1 c2 hu hu' => ?_, h.injO, fun u r u' c' b' hu hu' he => ?_, h.keysO⟩
  · obtain ⟨e1, e2⟩ := put_get a (some t) (.pointer (some ⟨w.heap.size, 0, none⟩)) (s.tm.map (kill t)) (.box t 0) i (by simpa using h.size)
    rw [e1]
    show RepD _ _ _ _ (((s.tm.map (kill t)).set t (.box t 0)).getD i .any)
    rw [show ((s.tm.map (kill t)).set t (.box t 0)) = putT (some t) (.box t 0) (s.tm.map (kill t)) from rfl, e2]
    split
    · show _ = _; rw [ρt]
    · have hi := h.tm i
      rw [map_getD (kill t) rfl]
      show RepD _ _ _ _ (kill t (s.tmF i))
      cases hd : s.tmF i with
      | box u off =>
        rw [hd] at hi
        unfold kill
        simp only
        split
        · trivial
        · rename_i hne; exact hi.mv mv (fun t' off' he => by injection he with he _; subst he; exact ρo _ hne)
      | _ => rw [hd] at hi; exact hi.mv mv (fun t' off' he => by cases he)
  · rcases two u c' hu with ⟨rfl, rfl⟩ | ⟨hne, hu'⟩
    · rw [ρt]; exact ⟨h.below.size, arr, heap_alloc_new w _, h2.mv mv⟩
    · obtain ⟨g1, arr', g2, g3⟩ := h.bx u c' hu'
      rw [ρo u hne]
      exact ⟨g1, arr', blk_alloc g2 _, g3.mv mv⟩
  · obtain ⟨g1, g2⟩ := h.ow u r hu
    refine ⟨g1.mv mv (fun b' hb' => Below.heap_alloc w _ _ (g2 b' hb').2), fun b' hb' => ⟨(g2 b' hb').1, ?_⟩⟩
    have := (g2 b' hb').2
    simp; omega
  · rcases two u c1 hu with ⟨rfl, _⟩ | ⟨hne, h3⟩ <;> rcases two u' c2 hu' with ⟨rfl, _⟩ | ⟨hne', h4⟩
    · rfl
    · rw [ρt, ρo u' hne'] at he; have := hlt _ (.inr (.inl ⟨u', c2, h4, rfl⟩)); omega
    · rw [ρt, ρo u hne] at he; have := hlt _ (.inr (.inl ⟨u, c1, h3, rfl⟩)); omega
    · rw [ρo u hne, ρo u' hne'] at he; exact h.inj u u' c1 c2 h3 h4 he
  · rcases two u c1 hu with ⟨rfl, rfl⟩ | ⟨hne, h3⟩ <;> rcases two u c2 hu' with ⟨he, hc⟩ | ⟨hne', h4⟩
    · exact hc.symm
    · exact absurd rfl hne'
    · exact absurd he hne
    · exact h.keys u c1 c2 h3 h4
  · rcases two u' c' hu' with ⟨rfl, _⟩ | ⟨hne, h3⟩
    · rw [ρt]; have := ((h.ow u r hu).2 b' he).2; omega
    · rw [ρo u' hne]; exact h.injB u r u' c' b' hu h3 he
theorem OwnN.base {S : Sc} {w w' : World} {B : Nat} {v : Value} {r : Row} (h : OwnN S w w' B v r) : ∀ b, ownB v = some b → B ≤ b ∧ b < w'.heap.size := by
  intro b hb
  have hk := ownB_block hb
  cases r with
  | ints l =>
    rcases h with ⟨A, rfl, _⟩ | h
    · cases A <;> simp [ownB] at hb
    · exact ⟨own_base h b hk, own_lt h b hk⟩
  | vals l =>
    rcases h with ⟨A, rfl, _⟩ | ⟨xs, h, _⟩
    · cases A <;> simp [ownB] at hb
    · exact ⟨own_base h b hk, own_lt h b hk⟩
theorem Rep.step_app (h : Rep S0 w0 ρ ν s a w) {t : Nat} {old : Option Nat} {r : Row} {v : Value} {w' : World} (hold : ∀ u, old = some u → ∃ q, s.ovF u = some q) (hO : OwnN (Sof S0 ρ ν s.bx s.ow) w w' w0.heap.size v r) (hsl : ∃ A n c, v = .slice A n c) (hg : w.grownBy w' (old.bind fun u => ownB (ν u))) (hb : ∀ b, ownB v = some b → w.heap.size ≤ b ∧ b < w'.heap.size ∨ ∃ u, old = some u ∧ ownB (ν u) = some b) :
    ∃ ν', Rep S0 w0 ρ ν' (s.next (some t) (.one (.ce (.own t))) (.app old r)) (a.put (some t) v) w' := by
  let ν' : Nat → Value := fun u => if u = t then v else ν u
  have νt : ν' t = v := if_pos rfl
  have νo : ∀ u, u ≠ t → ν' u = ν u := fun u hu => if_neg hu
  have ow2 : ∀ u q, (u, q) ∈ (t, r) :: s.ow.filter (fun p => !isK t old p.1) → u = t ∧ q = r ∨ u ≠ t ∧ old ≠ some u ∧ (u, q) ∈ s.ow := fun u q hu => by
    rcases List.mem_cons.1 hu with hu | hu
    · simp only [Prod.mk.injEq] at hu; exact .inl hu
    · obtain ⟨h1, h2⟩ := List.mem_filter.1 hu
      have h2 : isK t old u = false := by simpa using h2
      unfold isK at h2
      rw [Bool.or_eq_false_iff] at h2
      exact .inr ⟨by simpa using h2.1, by simpa using h2.2, h1⟩
  have bx2 : ∀ u c, (u, c) ∈ killB (isK t old) s.bx → ∃ c', (u, c') ∈ s.bx ∧ c.ty = c'.ty ∧ c.cs = c'.cs.map (killC (isK t old)) := fun u c hu => by
    obtain ⟨⟨u', c'⟩, h1, h2⟩ := List.mem_map.1 hu
    simp only [Prod.mk.injEq] at h2
    obtain ⟨rfl, rfl⟩ := h2
    exact ⟨c', h1, rfl, rfl⟩
  have bnew : ∀ b, ownB v = some b → b < w.heap.size → ∃ u q, (u, q) ∈ s.ow ∧ old = some u ∧ ownB (ν u) = some b := fun b h1 h2 => by
    rcases hb b h1 with h3 | ⟨u, h3, h4⟩
    · omega
    · obtain ⟨q, hq⟩ := hold u h3
      exact ⟨u, q, lookup_mem2 hq, h3, h4⟩
  have hkept : ∀ b, b < w.heap.size → (∀ u, old = some u → ownB (ν u) ≠ some b) → w'.heap[b]? = w.heap[b]? := fun b h1 h2 => hg.block b h1 (fun e => by
    cases ho : old with
    | none => rw [ho] at e; cases e
    | some u => rw [ho] at e; exact h2 u ho e.symm)
  have mv : Mvp (fun u => isK t old u = true) (Sof S0 ρ ν s.bx s.ow) (Sof S0 ρ ν' (killB (isK t old) s.bx) ((t, r) :: s.ow.filter fun p => !isK t old p.1)) w w' := ⟨hg.size, fun b h1 h2 => hkept b h1 (fun u hu e => by
      obtain ⟨q, hq⟩ := hold u hu
      exact h2 (.inr (.inr ⟨u, q, lookup_mem2 hq, e⟩))), fun b h1 h2 => by
    rcases h2 with h2 | ⟨u, c, hu, rfl⟩ | ⟨u, q, hu, he⟩
    · exact .inl h2
    · obtain ⟨c', h3, _⟩ := bx2 u c hu
      exact .inr (.inl ⟨u, c', h3, rfl⟩)
    · rcases ow2 u q hu with ⟨rfl, rfl⟩ | ⟨hne, _, h3⟩
      · rw [νt] at he
        obtain ⟨u2, q2, h4, _, h5⟩ := bnew b he h1
        exact .inr (.inr ⟨u2, q2, h4, h5⟩)
      · rw [νo u hne] at he
        exact .inr (.inr ⟨u, q, h3, he⟩), fun u hu => νo u (fun e => hu (by subst e; unfold isK; simp))⟩
  have hbase := hO.base
  have hsize : w0.heap.size ≤ w.heap.size := h.below.size
  refine ⟨ν', ⟨hg.os.trans h.below.os, hg.tape.trans h.below.tape, hg.output.trans h.below.output, Nat.le_trans h.below.size hg.size, fun k hk => ?_⟩, h.base, h.defers, by simp [St.next, Act.put, h.size], fun i => ?_, fun u c hu => ?_, fun u q hu => ?_, fun u u' c1 c2 hu hu' he => ?_, fun u c1 c2 hu hu' => ?_, fun u u' r1 r2 b hu hu' h1 h2 => ?_, fun u r1 u' c b hu hu' he => ?_, fun u r1 r2 hu hu' => ?_⟩
  · refine (hkept k (by omega) (fun u hu e => ?_)).trans (h.below.block k hk)
    obtain ⟨q, hq⟩ := hold u hu
    have := ((h.ow u q (lookup_mem2 hq)).2 k e).1
    omega
  · show RepD _ _ _ _ (((s.tm.map (killD (isK t old))).set t (.one (.ce (.own t)))).getD i .any)
    obtain ⟨e1, e2⟩ := put_get a (some t) v (s.tm.map (killD (isK t old))) (.one (.ce (.own t))) i (by simpa using h.size)
    rw [e1, show ((s.tm.map (killD (isK t old))).set t (.one (.ce (.own t)))) = putT (some t) (.one (.ce (.own t))) (s.tm.map (killD (isK t old))) from rfl, e2]
    split
    · exact ⟨νt.symm, hsl⟩
    · rw [map_getD (killD (isK t old)) rfl]
      exact (killD_rep (isK t old) (h.tm i)).mvp mv (killD_no _ _) (fun _ _ _ => rfl)
  · obtain ⟨c', h1, h2, h3⟩ := bx2 u c hu
    obtain ⟨g1, arr, g2, g3⟩ := h.bx u c' h1
    refine ⟨g1, arr, ?_, ?_⟩
    · rw [h2]
      refine (hkept _ (blk_lt g2) (fun u2 hu2 e => ?_)).trans g2
      obtain ⟨q, hq⟩ := hold u2 hu2
      exact h.injB u2 q u c' _ (lookup_mem2 hq) h1 e rfl
    · rw [h3]
      exact All2.mvp mv (fun c hc => by obtain ⟨c0, _, rfl⟩ := List.mem_map.1 hc; exact killC_no _ _) (all2_mapr _ (fun _ _ => killC_rep _) g3)
  · rcases ow2 u q hu with ⟨rfl, rfl⟩ | ⟨hne, hno, h3⟩
    · rw [νt]
      exact ⟨hO.to mv, hbase⟩
    · rw [νo u hne]
      obtain ⟨g1, g2⟩ := h.ow u q h3
      refine ⟨g1.mv mv (fun b hb' => hkept b (g2 b hb').2 (fun u2 hu2 e => ?_)), fun b hb' => ⟨(g2 b hb').1, Nat.lt_of_lt_of_le (g2 b hb').2 hg.size⟩⟩
      obtain ⟨q2, hq2⟩ := hold u2 hu2
      have := h.injO u u2 q q2 b h3 (lookup_mem2 hq2) hb' e
      subst this
      exact hno hu2
  · obtain ⟨c3, h3, _⟩ := bx2 u c1 hu
    obtain ⟨c4, h4, _⟩ := bx2 u' c2 hu'
    exact h.inj u u' c3 c4 h3 h4 he
  · obtain ⟨⟨x1, y1⟩, g1, g2⟩ := List.mem_map.1 hu
    obtain ⟨⟨x2, y2⟩, g3, g4⟩ := List.mem_map.1 hu'
    simp only [Prod.mk.injEq] at g2 g4
    obtain ⟨rfl, rfl⟩ := g2
    obtain ⟨rfl, rfl⟩ := g4
    rw [h.keys _ _ _ g1 g3]
  · rcases ow2 u r1 hu with ⟨rfl, _⟩ | ⟨hne, hno, h3⟩ <;> rcases ow2 u' r2 hu' with ⟨rfl, _⟩ | ⟨hne', hno', h4⟩
    · rfl
    · rw [νt] at h1; rw [νo u' hne'] at h2
      obtain ⟨u2, q2, g1, g2, g3⟩ := bnew b h1 ((h.ow u' r2 h4).2 b h2).2
      have := h.injO u' u2 r2 q2 b h4 g1 h2 g3
      subst this
      exact absurd g2 hno'
    · rw [νt] at h2; rw [νo u hne] at h1
      obtain ⟨u2, q2, g1, g2, g3⟩ := bnew b h2 ((h.ow u r1 h3).2 b h1).2
      have := h.injO u u2 r1 q2 b h3 g1 h1 g3
      subst this
      exact absurd g2 hno
    · rw [νo u hne] at h1; rw [νo u' hne'] at h2
      exact h.injO u u' r1 r2 b h3 h4 h1 h2
  · obtain ⟨c', h1, _⟩ := bx2 u' c hu'
    rcases ow2 u r1 hu with ⟨rfl, _⟩ | ⟨hne, hno, h3⟩
    · rw [νt] at he
      intro e
      have hlt := (h.bx u' c' h1).2
      obtain ⟨arr, g2, _⟩ := hlt
      obtain ⟨u2, q2, g3, _, g4⟩ := bnew b he (by rw [← e]; exact blk_lt g2)
      exact h.injB u2 q2 u' c' b g3 h1 g4 e
    · rw [νo u hne] at he
      exact h.injB u r1 u' c' b h3 h1 he
  · rcases ow2 u r1 hu with ⟨rfl, rfl⟩ | ⟨hne, hno, h3⟩ <;> rcases ow2 u r2 hu' with ⟨e1, rfl⟩ | ⟨hne', hno', h4⟩
    · rfl
    · exact absurd rfl hne'
    · exact absurd e1 hne
    · exact h.keysO u r1 r2 h3 h4
theorem Rep.step_set (h : Rep S0 w0 ρ ν s a w) {dst : Option Nat} {t : Nat} {r q : Row} {v : Value} {w' : World} (hq : s.ovF t = some q) (hO : OwnR (Sof S0 ρ ν s.bx s.ow) w' w0.heap.size (ν t) r) (hg : w.grownBy w' (ownB (ν t))) (hsz : w'.heap.size = w.heap.size) : Rep S0 w0 ρ ν (s.next dst .any (.set t r)) (a.put dst v) w' := by
  have hm := lookup_mem2 hq
  have old_of : ∀ u c', (u, c') ∈ setOw t r s.ow → ∃ c2, (u, c2) ∈ s.ow := fun u c' hu => by
    rcases setOw_mem hu with ⟨rfl, _, c2, h3⟩ | ⟨_, h3⟩
    · exact ⟨c2, h3⟩
    · exact ⟨c', h3⟩
  have sub : ∀ x, (Sof S0 ρ ν s.bx (setOw t r s.ow)).bad x → (Sof S0 ρ ν s.bx s.ow).bad x := fun x hx => by
    rcases hx with hx | hx | ⟨u, c', hu, he⟩
    · exact .inl hx
    · exact .inr (.inl hx)
    · obtain ⟨c2, h3⟩ := old_of u c' hu
      exact .inr (.inr ⟨u, c2, h3, he⟩)
  have mv : Mv (Sof S0 ρ ν s.bx s.ow) (Sof S0 ρ ν s.bx (setOw t r s.ow)) w w' := ⟨hg.size, fun b h1 h2 => hg.block b h1 (fun e => h2 (.inr (.inr ⟨t, q, hm, e.symm⟩))), fun x _ hx => sub x hx, fun _ _ => rfl⟩
  have mv' : Mv (Sof S0 ρ ν s.bx s.ow) (Sof S0 ρ ν s.bx (setOw t r s.ow)) w' w' := ⟨Nat.le_refl _, fun _ _ _ => rfl, fun x _ hx => sub x hx, fun _ _ => rfl⟩
  refine ⟨⟨hg.os.trans h.below.os, hg.tape.trans h.below.tape, hg.output.trans h.below.output, Nat.le_trans h.below.size hg.size, fun k hk => ?_⟩, h.base, by rw [put_defers]; exact h.defers, by show (putT dst .any s.tm).length = _; rw [putT_len, put_size]; exact h.size, fun i => ?_, fun u c hu => ?_, fun u r' hu => ?_, h.inj, h.keys, fun u u' r1 r2 b hu hu' h1 h2 => ?_, fun u r1 u' c b hu hu' he => ?_, fun u r1 r2 hu hu' => ?_⟩
  · refine (hg.block k (Nat.lt_of_lt_of_le hk h.below.size) (fun e => ?_)).trans (h.below.block k hk)
    have := ((h.ow t q hm).2 k e.symm).1
    omega
  · obtain ⟨e1, e2⟩ := put_get a dst v s.tm .any i h.size
    rw [e1]; show RepD _ _ _ _ ((putT dst .any s.tm).getD i .any); rw [e2]
    split
    · trivial
    · exact (h.tm i).mv mv (fun _ _ _ => rfl)
  · obtain ⟨g1, arr, g2, g3⟩ := h.bx u c hu
    exact ⟨g1, arr, (hg.block _ (blk_lt g2) (fun e => h.injB t q u c _ hm hu e.symm rfl)).trans g2, g3.mv mv⟩
  · rcases setOw_mem hu with ⟨rfl, rfl, _⟩ | ⟨hne, h3⟩
    · exact ⟨hO.mv mv' (fun _ _ => rfl), fun b hb => ⟨((h.ow u q hm).2 b hb).1, by rw [hsz]; exact ((h.ow u q hm).2 b hb).2⟩⟩
    · obtain ⟨g1, g2⟩ := h.ow u r' h3
      exact ⟨g1.mv mv (fun b hb => hg.block b (g2 b hb).2 (fun e => hne (h.injO u t r' q b h3 hm hb e.symm))), fun b hb => ⟨(g2 b hb).1, by rw [hsz]; exact (g2 b hb).2⟩⟩
  · obtain ⟨r3, h3⟩ := old_of u r1 hu
    obtain ⟨r4, h4⟩ := old_of u' r2 hu'
    exact h.injO u u' r3 r4 b h3 h4 h1 h2
  · obtain ⟨r3, h3⟩ := old_of u r1 hu
    exact h.injB u r3 u' c b h3 hu' he
  · rcases setOw_mem hu with ⟨rfl, rfl, _⟩ | ⟨hne, h3⟩ <;> rcases setOw_mem hu' with ⟨e1, rfl, _⟩ | ⟨hne', h4⟩
    · rfl
    · exact absurd rfl hne'
    · exact absurd e1 hne
    · exact h.keysO u r1 r2 h3 h4
/-- What an operation leaves keeps what is said of the call's place. -/
theorem Rep.step (h : Rep S0 w0 ρ ν s a w) {dst : Option Nat} {eff : Eff} {d : D} {v : Value} {w' : World} (hs : Step (Sof S0 ρ ν s.bx s.ow) w0.heap.size ρ s.bvF s.ovF w dst eff d v w') :
    ∃ ρ' ν', Rep S0 w0 ρ' ν' (s.next dst d eff) (a.put dst v) w' := by
  cases eff with
  | none => exact ⟨ρ, ν, h.step_none hs.1 hs.2⟩
  | put t b =>
    obtain ⟨arr, old, c, hc, rfl, h1, rfl, h2⟩ := hs
    exact ⟨ρ, ν, h.step_put hc h1 h2⟩
  | new b =>
    obtain ⟨t, arr, rfl, rfl, rfl, rfl, h2⟩ := hs
    obtain ⟨ρ', h'⟩ := h.step_new (t := t) h2
    exact ⟨ρ', ν, h'⟩
  | app old r =>
    obtain ⟨t, rfl, rfl, h1, h2, h3, h4, h5⟩ := hs
    obtain ⟨ν', h'⟩ := h.step_app (t := t) h1 h2 h3 h4 h5
    exact ⟨ρ, ν', h'⟩
  | set t r =>
    obtain ⟨q, hq, rfl, h1, h2, h3⟩ := hs
    exact ⟨ρ, ν, h.step_set hq h1 h2 h3⟩
end
noncomputable def frzC (p : Nat → Bool) (ow : List (Nat × Row)) (c : Ce) : Ce := match c with
  | .own t => if p t = true then match ow.lookup t with
      | some r => rowC r
      | none => .any
    else .own t
  | c => c
noncomputable def frz1 (p : Nat → Bool) (ow : List (Nat × Row)) (d : D1) : D1 := match d with
  | .ce c => .ce (frzC p ow c)
  | .agg cs => .agg (cs.map (frzC p ow))
noncomputable def frzD (p : Nat → Bool) (ow : List (Nat × Row)) (d : D) : D := match d with
  | .one d => .one (frz1 p ow d)
  | .tup l => .tup (l.map (frz1 p ow))
  | .eoi t i => if p t = true then .any else .eoi t i
  | .eov t i off => if p t = true then .any else .eov t i off
  | d => d
noncomputable def frz (p : Nat → Bool) (s : St) : St := ⟨s.tm.map (frzD p s.ow), s.bx.map (fun q => (q.1, ⟨q.2.ty, q.2.cs.map (frzC p s.ow)⟩)), s.ow.filter fun q => !p q.1⟩
section
variable {S0 : Sc} {w0 : World} {ρ : Nat → Nat} {ν : Nat → Value} {s : St} {a : Act} {w : World}
theorem frz_bx {p : Nat → Bool} {u : Nat} {c : BoxC} (hu : (u, c) ∈ (frz p s).bx) : ∃ c', (u, c') ∈ s.bx ∧ c.ty = c'.ty ∧ c.cs = c'.cs.map (frzC p s.ow) := by
  obtain ⟨⟨u', c'⟩, h1, h2⟩ := List.mem_map.1 hu
  simp only [Prod.mk.injEq] at h2
  obtain ⟨rfl, rfl⟩ := h2
  exact ⟨c', h1, rfl, rfl⟩
theorem frz_ow {p : Nat → Bool} {u : Nat} {r : Row} (hu : (u, r) ∈ (frz p s).ow) : (u, r) ∈ s.ow ∧ p u = false := by
  obtain ⟨h1, h2⟩ := List.mem_filter.1 hu
  exact ⟨h1, by simpa using h2⟩
theorem Rep.frz_mv (p : Nat → Bool) : Mv (Sof S0 ρ ν s.bx s.ow) (Sof S0 ρ ν (frz p s).bx (frz p s).ow) w w := ⟨Nat.le_refl _, fun _ _ _ => rfl, fun b _ hb => by
  rcases hb with hb | ⟨u, c, hu, rfl⟩ | ⟨u, r, hu, he⟩
  · exact .inl hb
  · obtain ⟨c', h1, _⟩ := frz_bx hu
    exact .inr (.inl ⟨u, c', h1, rfl⟩)
  · exact .inr (.inr ⟨u, r, (frz_ow hu).1, he⟩), fun _ _ => rfl⟩
theorem Rep.frzC (h : Rep S0 w0 ρ ν s a w) (p : Nat → Bool) {v : Value} {c : Ce} (hc : RepC (Sof S0 ρ ν s.bx s.ow) w v c) : RepC (Sof S0 ρ ν (frz p s).bx (frz p s).ow) w v (frzC p s.ow c) := by
  have mv := Rep.frz_mv (S0 := S0) (w := w) (ρ := ρ) (ν := ν) (s := s) p
  unfold Ev.frzC
  split
  · rename_i t
    split
    · rename_i hp
      split
      · rename_i r hl
        have hm := lookup_mem2 hl
        obtain ⟨g1, g2⟩ := h.ow t r hm
        obtain ⟨rfl, _⟩ := hc
        refine own_rep g1 mv (fun b hb hbad => ?_)
        rcases hbad with hbad | ⟨u, c, hu, e⟩ | ⟨u, q, hu, e⟩
        · have := h.base b hbad; have := (g2 b hb).1; omega
        · obtain ⟨c', h1, _⟩ := frz_bx hu
          exact h.injB t r u c' b hm h1 hb e
        · obtain ⟨h1, h2⟩ := frz_ow hu
          have := h.injO t u r q b hm h1 hb e
          subst this
          rw [hp] at h2; cases h2
      · exact RepC.one hc
    · exact hc.mv mv
  · exact hc.mv mv
theorem all2_frz (h : Rep S0 w0 ρ ν s a w) (p : Nat → Bool) {l : List Value} {m : List Ce} (hl : All2 (RepC (Sof S0 ρ ν s.bx s.ow) w) l m) : All2 (RepC (Sof S0 ρ ν (frz p s).bx (frz p s).ow) w) l (m.map (frzC p s.ow)) := by
  induction l generalizing m with
  | nil => cases m with
    | nil => trivial
    | cons _ _ => exact hl.elim
  | cons a l ih => cases m with
    | nil => exact hl.elim
    | cons b m => exact ⟨h.frzC p hl.1, ih hl.2⟩
theorem Rep.frz1 (h : Rep S0 w0 ρ ν s a w) (p : Nat → Bool) {v : Value} {c : D1} (hc : Rep1 (Sof S0 ρ ν s.bx s.ow) w v c) : Rep1 (Sof S0 ρ ν (frz p s).bx (frz p s).ow) w v (frz1 p s.ow c) := by
  cases c with
  | ce c => exact h.frzC p hc
  | agg cs => obtain ⟨arr, e, hc⟩ := hc; exact ⟨arr, e, all2_frz h p hc⟩
theorem all2_frz1 (h : Rep S0 w0 ρ ν s a w) (p : Nat → Bool) {l : List Value} {m : List D1} (hl : All2 (Rep1 (Sof S0 ρ ν s.bx s.ow) w) l m) : All2 (Rep1 (Sof S0 ρ ν (frz p s).bx (frz p s).ow) w) l (m.map (frz1 p s.ow)) := by
  induction l generalizing m with
  | nil => cases m with
    | nil => trivial
    | cons _ _ => exact hl.elim
  | cons a l ih => cases m with
    | nil => exact hl.elim
    | cons b m => exact ⟨h.frz1 p hl.1, ih hl.2⟩
theorem Rep.frzD (h : Rep S0 w0 ρ ν s a w) (p : Nat → Bool) {v : Value} {d : D} (hc : RepD (Sof S0 ρ ν s.bx s.ow) w ρ v d) : RepD (Sof S0 ρ ν (frz p s).bx (frz p s).ow) w ρ v (frzD p s.ow d) := by
  have mv := Rep.frz_mv (S0 := S0) (w := w) (ρ := ρ) (ν := ν) (s := s) p
  cases d with
  | one d => exact h.frz1 p hc
  | tup l => obtain ⟨arr, e, hc⟩ := hc; exact ⟨arr, e, all2_frz1 h p hc⟩
  | eoi t i =>
    show RepD _ _ _ _ (if p t = true then D.any else .eoi t i)
    split
    · trivial
    · exact hc.mv mv (fun _ _ _ => rfl)
  | eov t i off =>
    show RepD _ _ _ _ (if p t = true then D.any else .eov t i off)
    split
    · trivial
    · exact hc.mv mv (fun _ _ _ => rfl)
  | box t off => exact hc.mv mv (fun _ _ _ => rfl)
  | eli l i => exact hc.mv mv (fun _ _ _ => rfl)
  | elv l i off => exact hc.mv mv (fun _ _ _ => rfl)
  | elr l i => exact hc.mv mv (fun _ _ _ => rfl)
  | any => trivial
theorem Rep.frz (h : Rep S0 w0 ρ ν s a w) (p : Nat → Bool) : Rep S0 w0 ρ ν (frz p s) a w := by
  have mv := Rep.frz_mv (S0 := S0) (w := w) (ρ := ρ) (ν := ν) (s := s) p
  refine ⟨h.below, h.base, h.defers, by simp [Ev.frz, h.size], fun i => ?_, fun u c hu => ?_, fun u r hu => ?_, fun u u' c1 c2 hu hu' he => ?_, fun u c1 c2 hu hu' => ?_, fun u u' r1 r2 b hu hu' h1 h2 => ?_, fun u r1 u' c b hu hu' he => ?_, fun u r1 r2 hu hu' => ?_⟩
  · have := h.frzD p (h.tm i)
    show RepD _ _ _ _ ((s.tm.map (Ev.frzD p s.ow)).getD i .any)
    rw [map_getD (Ev.frzD p s.ow) rfl]
    exact this
  · obtain ⟨c', h1, h2, h3⟩ := frz_bx hu
    obtain ⟨g1, arr, g2, g3⟩ := h.bx u c' h1
    exact ⟨g1, arr, by rw [h2]; exact g2, by rw [h3]; exact all2_frz h p g3⟩
  · obtain ⟨g1, g2⟩ := h.ow u r (frz_ow hu).1
    exact ⟨g1.mv mv (fun _ _ => rfl), g2⟩
  · obtain ⟨c3, h3, _⟩ := frz_bx hu
    obtain ⟨c4, h4, _⟩ := frz_bx hu'
    exact h.inj u u' c3 c4 h3 h4 he
  · obtain ⟨⟨x1, y1⟩, g1, g2⟩ := List.mem_map.1 hu
    obtain ⟨⟨x2, y2⟩, g3, g4⟩ := List.mem_map.1 hu'
    simp only [Prod.mk.injEq] at g2 g4
    obtain ⟨rfl, rfl⟩ := g2
    obtain ⟨rfl, rfl⟩ := g4
    rw [h.keys _ _ _ g1 g3]
  · exact h.injO u u' r1 r2 b (frz_ow hu).1 (frz_ow hu').1 h1 h2
  · obtain ⟨c', h1, _⟩ := frz_bx hu'
    exact h.injB u r1 u' c' b (frz_ow hu).1 h1 he
  · exact h.keysO u r1 r2 (frz_ow hu).1 (frz_ow hu').1
end
/-! ### Whom an operation makes a row of no one's own -/
noncomputable def ownsC : List Ce → List Nat
  | [] => []
  | .own t :: r => t :: ownsC r
  | _ :: r => ownsC r
noncomputable def ownsD : D → List Nat
  | .one d => ownsC d.cells
  | _ => []
noncomputable def lets (tm : Nat → D) : Op → List Nat
  | .call c => match c.callee with
    | .value _ => c.args.toList.flatMap fun x => ownsD (evD tm x)
    | _ => []
  | .slice _ x _ _ _ => ownsD (evD tm x)
  | .buildSlice _ _ parts => parts.toList.flatMap fun q => ownsD (evD tm q.2)
  | .store _ x y => match evD tm x with
    | .eov _ _ _ => ownsD (evD tm y)
    | _ => []
  | _ => []
noncomputable def frzFor (s : St) (op : Op) : St := match s.ow with
  | [] => s
  | _ => match lets s.tmF op with
    | [] => s
    | l => frz (fun t => l.contains t) s
theorem Rep.frzFor {S0 : Sc} {w0 : World} {ρ : Nat → Nat} {ν : Nat → Value} {s : St} {a : Act} {w : World} (h : Rep S0 w0 ρ ν s a w) (op : Op) : Rep S0 w0 ρ ν (frzFor s op) a w := by
  unfold Ev.frzFor
  split
  · exact h
  · split
    · exact h
    · exact h.frz _
noncomputable def frzAll (s : St) : St := match s.ow with
  | [] => s
  | _ => frz (fun _ => true) s
theorem Rep.frzAll {S0 : Sc} {w0 : World} {ρ : Nat → Nat} {ν : Nat → Value} {s : St} {a : Act} {w : World} (h : Rep S0 w0 ρ ν s a w) : Rep S0 w0 ρ ν (frzAll s) a w := by
  unfold Ev.frzAll
  split
  · exact h
  · exact h.frz _
noncomputable def guardD (ops : Array Oper) (tm : Nat → D) (o : Oper) : Option Bool := match o.guard with
  | none => some true
  | some (j, want) => match (ops[j]?).bind (·.dst) with
    | some d => match tm d with
      | .one (.ce (.bool b)) => some (b == want)
      | .tup _ => some false
      | _ => none
    | none => none
/-- A state, seen whole before what follows is looked at (it is the same: this only tells the kernel in which order to go). -/
noncomputable def seeD (d : D) (k : D → Res) : Res := match d with
  | .one (.ce c) => k (.one (.ce c))
  | .one (.agg l) => k (.one (.agg l))
  | .tup l => k (.tup l)
  | .box t off => k (.box t off)
  | .eli l i => k (.eli l i)
  | .elv l i off => k (.elv l i off)
  | .elr l i => k (.elr l i)
  | .eoi t i => k (.eoi t i)
  | .eov t i off => k (.eov t i off)
  | .any => k .any
theorem seeD_is (d : D) (k : D → Res) : seeD d k = k d := by
  cases d with
  | one d => cases d <;> rfl
  | _ => rfl
noncomputable def seeL (l : List D) : (List D → Res) → Res :=
  List.rec (motive := fun _ => (List D → Res) → Res) (fun k => k []) (fun d _ ih k => seeD d fun d => ih fun l => k (d :: l)) l
theorem seeL_is : ∀ (l : List D) (k : List D → Res), seeL l k = k l
  | [], k => rfl
  | d :: l, k => by
    show seeD d (fun d => seeL l fun l => k (d :: l)) = k (d :: l)
    rw [seeD_is, seeL_is]
noncomputable def withSt (s : St) (k : St → Res) : Res := match s with
  | ⟨tm, bx, ow⟩ => seeL tm fun tm => k ⟨tm, bx, ow⟩
theorem withSt_is (s : St) (k : St → Res) : withSt s k = k s := by cases s; exact seeL_is _ _
noncomputable def denOps (Γ : Ctx) (ops : Array Oper) (l : List Oper) : St → (St → Res) → Res :=
  List.rec (motive := fun _ => St → (St → Res) → Res) (fun s k => k s) (fun o _ ih s k => match guardD ops s.tmF o with
    | some true => withSt (frzFor s o.op) fun s => denOp Γ s.tmF s.bvF s.ovF o.dst o.op (fun d eff => ih (s.next o.dst d eff) k) (some .dies)
    | some false => ih ⟨putT o.dst (.tup []) s.tm, s.bx, s.ow⟩ k
    | none => none) l
theorem denOps_cons (Γ : Ctx) (ops : Array Oper) (o : Oper) (rest : List Oper) (s : St) (k : St → Res) : denOps Γ ops (o :: rest) s k = match guardD ops s.tmF o with
    | some true => withSt (frzFor s o.op) fun s => denOp Γ s.tmF s.bvF s.ovF o.dst o.op (fun d eff => denOps Γ ops rest (s.next o.dst d eff) k) (some .dies)
    | some false => denOps Γ ops rest ⟨putT o.dst (.tup []) s.tm, s.bx, s.ow⟩ k
    | none => none := rfl
theorem guard_ok {S : Sc} {ρ : Nat → Nat} {tm : Nat → D} {w : World} {ops : Array Oper} {a : Act} {o : Oper} {b : Bool} (ht : ∀ i, RepD S w ρ (a.tmps.getD i undef) (tm i)) (h : guardD ops tm o = some b) : Region.wanted o (yielded ops a.tmps) = b := by
  unfold guardD at h
  unfold Region.wanted
  split at h
  · rename_i hg; rw [hg]; exact Option.some.inj h
  · rename_i j want hg
    rw [hg]
    split at h
    · rename_i d hd
      split at h
      · rename_i x hx
        have h := Option.some.inj h
        subst h
        have hv : a.tmps.getD d undef = .bool x := by have := ht d; rw [hx] at this; exact this
        have hy : yielded ops a.tmps j = some x := by
          unfold yielded
          rw [hd, Option.bind_some]
          rw [Array.getD_eq_getD_getElem?] at hv
          cases he : a.tmps[d]? with
          | none => rw [he] at hv; cases hv
          | some v => rw [he] at hv; have hv : v = .bool x := hv; subst hv; rfl
        simp only [hy]
        cases x <;> cases want <;> rfl
      · rename_i l hx
        have h := Option.some.inj h
        subst h
        obtain ⟨vs, hv, _⟩ : ∃ vs : Array Value, a.tmps.getD d undef = .tuple vs ∧ All2 (Rep1 S w) vs.toList l := by have := ht d; rw [hx] at this; exact this
        have hy : yielded ops a.tmps j = none := by
          unfold yielded
          rw [hd, Option.bind_some]
          rw [Array.getD_eq_getD_getElem?] at hv
          cases he : a.tmps[d]? with
          | none => rfl
          | some v => rw [he] at hv; have hv : v = .tuple vs := hv; subst hv; rfl
        simp only [hy]
        rfl
      · cases h
    · cases h
section
variable {S0 : Sc} {w0 : World} {Q : Exit → Act → World → Prop} {Γ : Ctx} {r : Out}
/-- What is asked of what follows. -/
def NOk (S0 : Sc) (w0 : World) (r : Out) (k : St → Res) (K : Act → World → Prop) : Prop :=
  ∀ s ρ ν a w, k s = some r → Rep S0 w0 ρ ν s a w → K a w
def Dead (w0 : World) (r : Out) (Q : Exit → Act → World → Prop) : Prop :=
  r = .dies → ∀ (u : TypeId) (pv : Value) (a : Act) (w : World), a.defers = [] → Below w0.heap.size w0 w → Q (.panic [{ v := .iface u pv, recovered := false }]) a w
theorem denOps_ok (hΓ : Ok Γ) (ops : Array Oper) (k : St → Res) (hk : NOk S0 w0 r k (fun a w => Q .normal a w)) (hD : Dead w0 r Q) : ∀ (l : List Oper) (s : St) (ρ : Nat → Nat) (ν : Nat → Value) (a : Act) (w : World), denOps Γ ops l s k = some r → Rep S0 w0 ρ ν s a w → wpList Try.prog ops Q l a w
  | [], s, ρ, ν, a, w, h, hr => hk s ρ ν a w h hr
  | o :: rest, s, ρ, ν, a, w, h, hr => by
    rw [denOps_cons] at h
    unfold wpList
    split at h
    · rename_i hg
      rw [if_pos (guard_ok hr.tm hg)]
      rw [withSt_is] at h
      have hr := hr.frzFor o.op
      refine .inl (op_ok hΓ hr.env h (fun d eff v w' hk' hs => ?_) (fun he u pv w' hb => ?_))
      · obtain ⟨ρ', ν', hr'⟩ := hr.step hs
        exact denOps_ok hΓ ops k hk hD rest _ ρ' ν' _ _ hk' hr'
      · exact hD (Option.some.inj he).symm u pv a w' hr.defers (hr.below.trans (hb.mono hr.below.size))
    · rename_i hg
      rw [if_neg (by rw [guard_ok hr.tm hg]; decide)]
      exact denOps_ok hΓ ops k hk hD rest _ ρ ν _ _ h (hr.skip _)
    · cases h
end
/-! ### Code -/
inductive Ex where
  | normal
  | exit (id : Nat)
  | ret
def Ex.cv : Ex → Exit
  | .normal => .normal
  | .exit id => .exit id
  | .ret => .ret
noncomputable def loopN (m : Nat) (f : St → (Ex → St → Res) → Res) : St → (Ex → St → Res) → Res :=
  Nat.rec (motive := fun _ => St → (Ex → St → Res) → Res) (fun _ _ => none) (fun _ ih s k => f s fun e s' => match e with
    | .normal => ih s' k
    | .exit i => k (.exit i) s'
    | .ret => k .ret s') m
/-! ### What was done, by the operation's number -/
structure Rec where
  dst : Option Nat
  d : D
  eff : Eff
  touch : Option Nat
abbrev Recs := List (Nat × Rec)
noncomputable def edges (o : Oper) : List Nat := (o.after.toList.filter (Region.binds .any)).map (·.on)
noncomputable def maskOf (acc : List Nat) (es : List Nat) : Nat := es.foldl (fun s e => s ||| (2 ^ e ||| acc.getD e 0)) 0
noncomputable def masksF (acc : List Nat) (o : Oper) : List Nat := acc ++ [maskOf acc (edges o)]
noncomputable def masks (L : List Oper) : List Nat := L.foldl masksF []
noncomputable def bit (ms : List Nat) (i j : Nat) : Bool := (ms.getD i 0).testBit j
noncomputable def dstOf (slot : Nat) : List Oper → Nat → Option Nat
  | [], _ => none
  | o :: r, i => match o.dst with
    | some d => if d = slot then some i else dstOf slot r (i + 1)
    | none => dstOf slot r (i + 1)
/-- Whom operation i sees in a slot. -/
noncomputable def tmV (L : List Oper) (ms : List Nat) (s0 : St) (recs : Recs) (i slot : Nat) : D := match dstOf slot L 0 with
  | none => s0.tmF slot
  | some j => if j = i then s0.tmF slot
    else if bit ms i j = true then match recs.lookup j with
      | some c => c.d
      | none => .any
    else if bit ms j i = true then s0.tmF slot else .any
noncomputable def touchOf (tm : Nat → D) : Op → Option Nat
  | .load _ x => match evD tm x with
    | .box b _ => some b
    | _ => none
  | .store _ x _ => match evD tm x with
    | .box b _ => some b
    | _ => none
  | _ => none
noncomputable def putOf (t : Nat) : Recs → Option (Nat × BoxC)
  | [] => none
  | (j, c) :: r => match c.eff with
    | .put u b => if u = t then some (j, b) else putOf t r
    | _ => putOf t r
noncomputable def newOf (t : Nat) : Recs → Option (Nat × BoxC)
  | [] => none
  | (j, c) :: r => match c.eff, c.dst with
    | .new b, some u => if u = t then some (j, b) else newOf t r
    | _, _ => newOf t r
noncomputable def bvV (ms : List Nat) (s0 : St) (recs : Recs) (i : Nat) (touch : Option Nat) (t : Nat) : Option BoxC :=
  if touch = some t then
    match putOf t recs with
    | some (j, b) => if bit ms i j = true then some b else none
    | none => match s0.bx.lookup t with
      | some b => some b
      | none => match newOf t recs with
        | some (j, b) => if bit ms i j = true then some b else none
        | none => none
  else none
noncomputable def doneR (recs : Recs) (j : Nat) : Bool := (recs.lookup j).isSome
noncomputable def isCall (o : Oper) : Bool := match o.op with
  | .call { callee := .value _, .. } => true
  | _ => false
noncomputable def findOp (p : Nat → Oper → Bool) : List Oper → Nat → Option (Nat × Oper)
  | [], _ => none
  | o :: r, i => if p i o = true then some (i, o) else findOp p r (i + 1)
noncomputable def may (recs : Recs) (i : Nat) (o : Oper) : Bool := !doneR recs i && (edges o).all (doneR recs)
noncomputable def nextOp (L : List Oper) (recs : Recs) : Option (Nat × Oper) := match findOp (fun i o => may recs i o && !isCall o) L 0 with
  | some x => some x
  | none => findOp (may recs) L 0
/-- The table's own looks: each slot is one operation's; edges go back; what touches a variable that is written stands ahead of that, or behind. -/
noncomputable def chkOps (L : List Oper) (s0 : St) : List Oper → Nat → Bool
  | [], _ => true
  | o :: r, i => (match o.dst with
      | some d => dstOf d L 0 == some i && decide (d < s0.tm.length)
      | none => true) && (edges o).all (fun e => decide (e < i)) && chkOps L s0 r (i + 1)
noncomputable def apart (ms : List Nat) (i j : Nat) : Bool := i == j || bit ms i j || bit ms j i
noncomputable def isBoxOf (t : Nat) : D → Bool
  | .box u _ => u == t
  | _ => false
noncomputable def chkRec (ms : List Nat) (s0 : St) (recs : Recs) (i : Nat) (c : Rec) : Bool :=
  (match c.eff, c.dst with
    | .none, _ => true
    | .put t _, _ => ((s0.bx.lookup t).isSome || (match newOf t recs with
        | some (j, _) => bit ms i j
        | none => false)) && recs.all fun q => (match q.2.touch with
        | some u => u != t || apart ms i q.1
        | none => true) && (match q.2.eff with
        | .put u _ => u != t || q.1 == i
        | _ => true)
    | .new _, some t => !hasBx t s0.bx && s0.tm.all (fun d => !isBoxOf t d) && recs.all fun q => !isBoxOf t q.2.d || q.1 == i || bit ms q.1 i
    | .new _, none => false
    | .app _ _, _ => false
    | .set _ _, _ => false)
noncomputable def chk (L : List Oper) (ms : List Nat) (s0 : St) (recs : Recs) : Bool := chkOps L s0 L 0 && recs.all fun q => chkRec ms s0 recs q.1 q.2
noncomputable def chkDie (L : List Oper) (ms : List Nat) (s0 : St) (recs : Recs) (i : Nat) : Bool :=
  chk L ms s0 recs && (List.range L.length).all fun j => doneR recs j || j == i || bit ms j i
noncomputable def denDr (Γ : Ctx) (ops : Array Oper) (L : List Oper) (ms : List Nat) (s0 : St) (n : Nat) : Recs → (Recs → Res) → Res :=
  Nat.rec (motive := fun _ => Recs → (Recs → Res) → Res) (fun recs k => k recs) (fun _ ih recs k => match nextOp L recs with
    | none => k recs
    | some (i, o) => match guardD ops (tmV L ms s0 recs i) o with
      | some true => denOp Γ (tmV L ms s0 recs i) (bvV ms s0 recs i (touchOf (tmV L ms s0 recs i) o.op)) s0.ovF o.dst o.op
          (fun d eff => ih ((i, ⟨o.dst, d, eff, touchOf (tmV L ms s0 recs i) o.op⟩) :: recs) k)
          (if chkDie L ms s0 recs i = true then some .dies else none)
      | some false => ih ((i, ⟨o.dst, .tup [], .none, none⟩) :: recs) k
      | none => none) n
theorem denDr_succ (Γ : Ctx) (ops : Array Oper) (L : List Oper) (ms : List Nat) (s0 : St) (n : Nat) (recs : Recs) (k : Recs → Res) : denDr Γ ops L ms s0 (n + 1) recs k = match nextOp L recs with
    | none => k recs
    | some (i, o) => match guardD ops (tmV L ms s0 recs i) o with
      | some true => denOp Γ (tmV L ms s0 recs i) (bvV ms s0 recs i (touchOf (tmV L ms s0 recs i) o.op)) s0.ovF o.dst o.op
          (fun d eff => denDr Γ ops L ms s0 n ((i, ⟨o.dst, d, eff, touchOf (tmV L ms s0 recs i) o.op⟩) :: recs) k)
          (if chkDie L ms s0 recs i = true then some .dies else none)
      | some false => denDr Γ ops L ms s0 n ((i, ⟨o.dst, .tup [], .none, none⟩) :: recs) k
      | none => none := rfl
/-! ### What all of it leaves -/
noncomputable def tmL (L : List Oper) (s0 : St) (recs : Recs) (l : Nat → Bool) (slot : Nat) : D := match dstOf slot L 0 with
  | none => s0.tmF slot
  | some j => if l j = true then match recs.lookup j with
      | some c => c.d
      | none => .any
    else s0.tmF slot
noncomputable def curOf (recs : Recs) (l : Nat → Bool) (t : Nat) (b : BoxC) : BoxC := match putOf t recs with
  | some (j, b') => if l j = true then b' else b
  | none => b
noncomputable def newsL (recs : Recs) (l : Nat → Bool) : Recs → List (Nat × BoxC)
  | [] => []
  | (j, c) :: r => match c.eff, c.dst with
    | .new b, some t => if l j = true then (t, curOf recs l t b) :: newsL recs l r else newsL recs l r
    | _, _ => newsL recs l r
noncomputable def bxL (s0 : St) (recs : Recs) (l : Nat → Bool) : List (Nat × BoxC) := (s0.bx.map fun p => (p.1, curOf recs l p.1 p.2)) ++ newsL recs l recs
noncomputable def finSt (L : List Oper) (s0 : St) (recs : Recs) : St :=
  ⟨(List.range s0.tm.length).map (tmL L s0 recs fun _ => true), bxL s0 recs fun _ => true, s0.ow⟩
/-- All of a region that draws. -/
noncomputable def drawAll (Γ : Ctx) (ops : Array Oper) (s : St) (k : St → Res) : Res :=
  withSt s fun s => denDr Γ ops ops.toList (masks ops.toList) s ops.toList.length [] fun recs =>
    if (chk ops.toList (masks ops.toList) s recs && (List.range ops.toList.length).all (doneR recs)) = true then k (finSt ops.toList s recs) else none
/-- The last operation waits for all others. -/
noncomputable def isStore : Option Oper → Bool
  | some ⟨_, .store _ _ _, _, _, _, _⟩ => true
  | _ => false
noncomputable def sinkOk (L : List Oper) : Bool := isStore L[L.length - 1]? && (List.range (L.length - 1)).all fun j => bit (masks L) (L.length - 1) j
/-- All but the last, then the last. -/
noncomputable def drawSink (Γ : Ctx) (ops : Array Oper) (s : St) (k : St → Res) : Res :=
  withSt s fun s => denDr Γ ops ops.toList (masks ops.toList) s (ops.toList.length - 1) [] fun recs =>
    match (chk ops.toList (masks ops.toList) s recs && (List.range (ops.toList.length - 1)).all (doneR recs) && !doneR recs (ops.toList.length - 1)) with
    | true => denOps Γ ops (ops.toList.drop (ops.toList.length - 1)) (finSt ops.toList s recs) k
    | false => none
/-- A literal, an append that is a row of the call's own. -/
noncomputable def ownOp (Γ : Ctx) (o : Oper) : Bool := match o.dst with
  | some d => Γ.ow.contains d
  | none => false
/-- From operation p on, each waits for all ahead of it. -/
noncomputable def sufOk (L : List Oper) (ms : List Nat) (p : Nat) : Bool := (List.range (L.length - p)).all fun j => (List.range (p + j)).all fun i => bit ms (p + j) i
/-- The first operation from which on they are in a row. -/
noncomputable def sufAt (L : List Oper) (ms : List Nat) (n : Nat) : Option Nat :=
  Nat.rec (motive := fun _ => Option Nat) none (fun p ih => match ih with
    | some q => some q
    | none => match sufOk L ms p with
      | true => some p
      | false => none) n
noncomputable def sufOf (Γ : Ctx) (L : List Oper) : Option Nat := match L.any (ownOp Γ) with
  | true => sufAt L (masks L) L.length
  | false => none
/-- The operations that go in any order, then the ones behind, in a row. -/
noncomputable def drawSuf (Γ : Ctx) (ops : Array Oper) (p : Nat) (s : St) (k : St → Res) : Res :=
  withSt s fun s => denDr Γ ops ops.toList (masks ops.toList) s p [] fun recs =>
    match (chk ops.toList (masks ops.toList) s recs && (List.range p).all (doneR recs) && (List.range (ops.toList.length - p)).all (fun j => !doneR recs (p + j))) with
    | true => denOps Γ ops (ops.toList.drop p) (finSt ops.toList s recs) k
    | false => none
noncomputable def denDraw (Γ : Ctx) (ops : Array Oper) (s : St) (k : St → Res) : Res := match sufOf Γ ops.toList with
  | some p => drawSuf Γ ops p s k
  | none => match s.ow with
    | [] => drawAll Γ ops s k
    | _ => match sinkOk ops.toList with
      | true => drawSink Γ ops s k
      | false => drawAll Γ ops (frzAll s) k
end Ev
end Go.Proofs.Ytldfljlklfhjkaa.PE
