/- ActRight: whether any value may be is the document's; so is one of which one thing was turned. (the row, out of its plain statement and its walk). Conditions: none. -/
import Derived.Test.YtldfljlklfhjkaaRows
import Derived.Test.YtldfljlklfhjkaaPurR
import Derived.WalkKit
import Derived.ProofKit
import Derived.OpenShut
import Derived.ShutString
import Derived.ChangeOld
import Derived.ChangeSame
import Derived.ChangeSlices
import Derived.Below
import Derived.SizedLaws
namespace Go.Proofs.Ytldfljlklfhjkaa.actRight
open Go.ChangeShapes Go.WideShapes Go.ChangeAt Go.RowKit
open Go.ChangeMaps (open_string shut_string)
set_option linter.unusedVariables false
theorem own : ownKnob Try.prog.godebug = none := by kernel_rfl
theorem laidOut : laidOutB Try.prog = true := by kernel_rfl
/-- A row that the world keeps, as the contracts say it. -/
theorem row_of {W : World} {x : Addr} {len cap : Nat} {zs : List Int} (hl : len ≤ cap) (hm : cap ≤ maxLen) (hz : zs.length = cap) (hcell : ∀ i, i < zs.length → W.cell? (x.add i) = some (.int .i64 (zs.getD i 0))) :
    PE.Ev.SlI ⟨fun _ => False, fun _ => undef⟩ W (.slice (some x) len cap) (zs.take len) := by
  have hlen : (zs.take len).length = len := by rw [List.length_take]; omega
  have hb : cap ≤ 9223372036854775807 := hm
  refine ⟨some x, cap, by rw [hlen], by omega, by omega, fun h => ⟨x, rfl, ?_, fun h => h, ?_⟩⟩
  · have h0 := hcell 0 (by omega)
    unfold World.cell? at h0
    split at h0
    · split at h0
      · cases h0
      · rename_i hs
        cases hx : x.spot with
        | none => rfl
        | some s => exact absurd (show (x.add 0).spot.isSome = true by show x.spot.isSome = true; rw [hx]; rfl) hs
    · cases h0
  · intro j y hj
    have hlt : j < len := by
      have := (List.getElem?_eq_some_iff.1 hj).1
      omega
    rw [List.getElem?_take, if_pos hlt] at hj
    rw [hcell j (by omega), List.getD_eq_getElem?_getD, hj]
    rfl
/-- A value by value: its kind, its row. -/
theorem open_value {H : Type} {enc : TypeId × Value → H} {P : Program} {w : World} {held : Bool} {r : Reach} {b0 : Nat} {t e o : TypeId} {f0 f1 : Field} {v : Value} {d : DataW H} {p : List MemPlace}
    (hs : P.underlying t = some (.struct #[f0, f1])) (he : P.underlying e = some (.int .i64)) (ho : P.underlying o = some (.slice e)) (hC : P.cellsOf t = 2) (hE : P.cellsOf e = 1) (hO : P.cellsOf o = 1)
    (ht0 : f0.type = e) (ht1 : f1.type = o) (ho0 : f0.offset = 0) (ho1 : f1.offset = 1)
    (hv : Value.okWide P w r b0 t v) (h : DataW.Trod enc P w 0 (fun _ => true) held t v d p) :
    ∃ (k : Int) (s : Value) (l : List Int), v = .agg #[.int .i64 k, s] ∧ PE.Ev.SlI ⟨fun _ => False, fun _ => undef⟩ w s l := by
  obtain ⟨cs, rfl, hsz⟩ := okWide_struct hs hv
  obtain ⟨fuel, hf⟩ := h
  obtain ⟨y0, y1, n, _, hlen, g0, g1⟩ := Go.ChangeShapes.trod_struct2 hs hf
  obtain ⟨cl⟩ := cs
  rw [hC] at hsz
  match cl, hsz with
  | [c0, c1], _ =>
    rw [ht0, ho0, hE] at g0
    rw [ht1, ho1, hO] at g1
    obtain ⟨a, ha, _, _⟩ := DataW.trod_int he g0
    obtain rfl : c0 = .int .i64 a := by
      have ha : [c0] = [Value.int .i64 a] := ha
      injection ha
    rcases open_ints ho he hE g1 with ⟨hcs, _⟩ | ⟨x, ln, c, zs, hcs, _, hl, hm, hz, _, hcell, hwz⟩
    · have hcs : [c1] = [Value.slice none 0 0] := hcs
      obtain rfl : c1 = .slice none 0 0 := by injection hcs
      exact ⟨a, _, [], rfl, none, 0, rfl, Nat.le_refl _, Nat.zero_le _, fun h => absurd h (Nat.lt_irrefl 0)⟩
    · have hcs : [c1] = [Value.slice (some x) ln c] := hcs
      obtain rfl : c1 = .slice (some x) ln c := by injection hcs
      exact ⟨a, _, _, rfl, row_of hl hm (by simpa using hz) hcell⟩
set_option maxRecDepth 100000 in
theorem lifted (os : Os) (started : os.Started) (H : Type) (enc : TypeId × Value → H) :
    ReturnsInHanded {} Try.checked os 5 .any (Rows.actRightSpec.pre6 enc Try.prog Try.f5 Rows.actRightRow.domain false) (Rows.actRightSpec.post enc Try.prog Try.f5 false true false false) := by
  refine returnsInHanded_of_change_sized (C := Try.checked) own started (by kernel_rfl) Try.func5
    (ChangeSpec.witness6 (enc := enc) (C := Try.checked) false ⟨#[], #[.agg #[.int .i64 0, .slice none 0 0], .int .i64 0, .int .i64 0, .int .i64 0, .int .i64 0, .int .i64 0, .int .i64 0], []⟩ 8 (by kernel_rfl) (by kernel_rfl) (by kernel_rfl) (by kernel_rfl)) ?_
  intro W base args ds gs before hval0 hW hcnd hsz0 _
  have hval : ∀ (j : Nat) t v, Try.f5.params[j]? = some t → args[j]? = some v → Value.okWide Try.prog W .any base t v := hval0
  have hW' := hW
  obtain ⟨p, q, hA0, hV, rfl, hfz, hnd⟩ := hW
  have hA : DataW.TrodAll enc Try.prog W 0 (fun _ => true) true Try.f5.params.toList args.toList ds p := hA0
  rw [Try.params5] at hA hval
  obtain ⟨v0, vs0, d0, ds0, p0, q0, hargs, rfl, rfl, h0, r0⟩ := trodAll_cons hA
  obtain ⟨v1, vs1, d1, ds1, p1, q1, rfl, rfl, rfl, h1, r1⟩ := trodAll_cons r0
  obtain ⟨v2, vs2, d2, ds2, p2, q2, rfl, rfl, rfl, h2, r2⟩ := trodAll_cons r1
  obtain ⟨v3, vs3, d3, ds3, p3, q3, rfl, rfl, rfl, h3, r3⟩ := trodAll_cons r2
  obtain ⟨v4, vs4, d4, ds4, p4, q4, rfl, rfl, rfl, h4, r4⟩ := trodAll_cons r3
  obtain ⟨v5, vs5, d5, ds5, p5, q5, rfl, rfl, rfl, h5, r5⟩ := trodAll_cons r4
  obtain ⟨v6, vs6, d6, ds6, p6, q6, rfl, rfl, rfl, h6, r6⟩ := trodAll_cons r5
  obtain ⟨rfl, rfl, rfl⟩ := trodAll_nil r6
  obtain rfl : args = #[v0, v1, v2, v3, v4, v5, v6] := by cases args; simp_all
  obtain ⟨rfl, rfl⟩ := trodVars_none hV
  have k0 := h0
  have lt0 : ∀ x ∈ p0, x.block < W.heap.size := by obtain ⟨m, hm⟩ := k0; exact DataW.trod_lt m _ _ _ hm
  obtain ⟨k, s, l, rfl, hs⟩ := open_value Try.underlying27 Try.underlying3 Try.underlying22 (by kernel_rfl) (by kernel_rfl) (by kernel_rfl) rfl rfl rfl rfl (hval 0 27 v0 rfl rfl) h0
  obtain ⟨a1, rfl, rfl, rfl, w1⟩ := open_int Try.underlying3 (hval 1 3 v1 rfl rfl) h1
  obtain ⟨a2, rfl, rfl, rfl, w2⟩ := open_int Try.underlying3 (hval 2 3 v2 rfl rfl) h2
  obtain ⟨a3, rfl, rfl, rfl, w3⟩ := open_int Try.underlying3 (hval 3 3 v3 rfl rfl) h3
  obtain ⟨a4, rfl, rfl, rfl, w4⟩ := open_int Try.underlying3 (hval 4 3 v4 rfl rfl) h4
  obtain ⟨a5, rfl, rfl, rfl, w5⟩ := open_int Try.underlying3 (hval 5 3 v5 rfl rfl) h5
  obtain ⟨a6, rfl, rfl, rfl, w6⟩ := open_int Try.underlying3 (hval 6 3 v6 rfl rfl) h6
  clear hA0 hval0 hsz0
  refine (PE.Ev.ActRight_walk k s l a1 a2 a3 a4 a5 a6 W hs).mono fun e W' ⟨he, bel⟩ => ?_
  subst he
  exact ⟨_, rfl, _, _, _, [], _, [], hW', trodAll_mk1 (shut_bool Try.underlying4 _), (trodAll_cons_mk (Below.trod laidOut (by kernel_rfl) (of_decide_eq_true (by kernel_rfl)) k0 bel lt0) (trodAll_cons_mk (shut_int Try.underlying3 w1) (trodAll_cons_mk (shut_int Try.underlying3 w2) (trodAll_cons_mk (shut_int Try.underlying3 w3) (trodAll_cons_mk (shut_int Try.underlying3 w4) (trodAll_cons_mk (shut_int Try.underlying3 w5) (trodAll_cons_mk (shut_int Try.underlying3 w6) trodAll_mk0))))))), rfl, bel.frame _, fun h => by cases h⟩
theorem over : Rows.actRightRow.holds Try.pinned (OpenSpec.ofChange Rows.actRightSpec) :=
  OpenClaim.holds_of_wide 5 Try.f5 rfl rfl rfl rfl rfl rfl rfl ⟨rfl, rfl, rfl, rfl, rfl⟩ rfl rfl rfl rfl rfl (by kernel_rfl) Try.func5 (by kernel_rfl)
    (of_decide_eq_true (by kernel_rfl)) (by unfold Func.isWrapper; first | (rw [if_pos (by decide +kernel)]; kernel_rfl) | (rw [if_neg (by decide +kernel)]; exact ⟨rfl, rfl⟩))
    (fun os started H enc _ => lifted os started H enc)
theorem proved : Rows.ActRightSaid := over
#print axioms proved
end Go.Proofs.Ytldfljlklfhjkaa.actRight
namespace Go.Proofs.Ytldfljlklfhjkaa
/-- The row, under a short name, for the claim. -/
theorem actRight_holds : Rows.ActRightSaid := actRight.proved
end Go.Proofs.Ytldfljlklfhjkaa
