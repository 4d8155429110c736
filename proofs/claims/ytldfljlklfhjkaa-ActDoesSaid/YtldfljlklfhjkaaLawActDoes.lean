/- ActDoes: of any action, any children, any reference, what is made, or that nothing is, is the document's. (the row, out of its plain statement and its walk). Conditions: none. -/
import Derived.Test.YtldfljlklfhjkaaRows
import Derived.Test.YtldfljlklfhjkaaPurF9
import Derived.WalkKit
import Derived.ProofKit
import Derived.OpenShut
import Derived.ShutString
import Derived.ChangeOld
import Derived.ChangeSame
import Derived.ChangeSlices
import Derived.Below
import Derived.SizedLaws
import Derived.Test.YtldfljlklfhjkaaVSized
namespace Go.Proofs.Ytldfljlklfhjkaa.actDoes
open Go.ChangeShapes Go.WideShapes Go.ChangeAt Go.RowKit
open Go.ChangeMaps (open_string shut_string)
set_option linter.unusedVariables false
theorem own : ownKnob Try.prog.godebug = none := by kernel_rfl
theorem laidOut : laidOutB Try.prog = true := by kernel_rfl
/-- A row that the world keeps, as the contracts say it. -/
theorem row_of {W : World} {x : Addr} {len cap : Nat} {zs : List Int} (hl : len ≤ cap) (hm : cap ≤ maxLen) (hz : zs.length = cap) (hcell : ∀ i, i < zs.length → W.cell? (x.add i) = some (.int .i64 (zs.getD i 0))) :
    PE.Ev.SlI ⟨fun _ => False, fun _ => undef⟩ W (.slice (some x) len cap) (zs.take len) := by
  have hlen : (zs.take len).length = len := by rw [List.length_take]; omega
  have hb : cap ≤ 9223372036854775807 := hm
  refine ⟨some x, cap, by rw [hlen], by omega, by omega, fun h => ⟨x, rfl, ?_, fun h => h, ?_⟩⟩
  · have h0 := hcell 0 (by omega)
    unfold World.cell? at h0
    split at h0
    · split at h0
      · cases h0
      · rename_i hs
        cases hx : x.spot with
        | none => rfl
        | some s => exact absurd (show (x.add 0).spot.isSome = true by show x.spot.isSome = true; rw [hx]; rfl) hs
    · cases h0
  · intro j y hj
    have hlt : j < len := by
      have := (List.getElem?_eq_some_iff.1 hj).1
      omega
    rw [List.getElem?_take, if_pos hlt] at hj
    rw [hcell j (by omega), List.getD_eq_getElem?_getD, hj]
    rfl
/-- A row by value. -/
theorem open_row {H : Type} {enc : TypeId × Value → H} {P : Program} {w : World} {held : Bool} {t e : TypeId} {v : Value} {d : DataW H} {p : List MemPlace} (hu : P.underlying t = some (.slice e)) (he : P.underlying e = some (.int .i64)) (hE : P.cellsOf e = 1)
    {a : Option Addr} {len cap : Nat} (hv : v = .slice a len cap) (h : DataW.Trod enc P w 0 (fun _ => true) held t v d p) :
    ∃ l : List Int, l.length = len ∧ PE.Ev.SlI ⟨fun _ => False, fun _ => undef⟩ w v l := by
  subst hv
  obtain ⟨fuel, hf⟩ := h
  rcases open_ints hu he hE hf with ⟨hcs, _⟩ | ⟨x, l, c, zs, hcs, _, hl, hm, hz, _, hcell, hwz⟩
  · simp [Value.cells] at hcs
    obtain ⟨rfl, rfl, rfl⟩ := hcs
    exact ⟨[], rfl, none, 0, rfl, Nat.le_refl _, Nat.zero_le _, fun h => absurd h (Nat.lt_irrefl 0)⟩
  · simp [Value.cells] at hcs
    obtain ⟨rfl, rfl, rfl⟩ := hcs
    have hz : zs.length = cap := by simpa using hz
    exact ⟨zs.take len, by rw [List.length_take]; omega, row_of hl hm hz hcell⟩
set_option maxRecDepth 100000 in
theorem lifted (os : Os) (started : os.Started) (H : Type) (enc : TypeId × Value → H) :
    ReturnsInHanded {} Try.checked os 3 .any (Rows.actDoesSpec.pre6 enc Try.prog Try.f3 Rows.actDoesRow.domain false) (Rows.actDoesSpec.post enc Try.prog Try.f3 false true false false) := by
  refine returnsInHanded_of_change_sized (C := Try.checked) own started (by kernel_rfl) Try.func3
    (ChangeSpec.witness6 (enc := enc) (C := Try.checked) false ⟨#[], #[.int .i64 0, .slice none 0 0, .slice none 0 0, .int .i64 0], []⟩ 8 (by kernel_rfl) (by kernel_rfl) (by kernel_rfl) (by kernel_rfl)) ?_
  intro W base args ds gs before hval0 hW hcnd hsz0 _
  have hsz : (DataW.weightsEach Try.prog (Try.f3.params.toList ++ Rows.actDoesSpec.plain.varTypes Try.prog) (ds ++ gs)).all (· ≤ reachBytes) = true := hsz0
  have hval : ∀ (j : Nat) t v, Try.f3.params[j]? = some t → args[j]? = some v → Value.okWide Try.prog W .any base t v := hval0
  have hW' := hW
  obtain ⟨p, q, hA0, hV, rfl, hfz, hnd⟩ := hW
  have hA : DataW.TrodAll enc Try.prog W 0 (fun _ => true) true Try.f3.params.toList args.toList ds p := hA0
  rw [Try.params3] at hA hval hsz
  obtain ⟨v0, vs0, d0, ds0, p0, q0, hargs, rfl, rfl, h0, r0⟩ := trodAll_cons hA
  obtain ⟨v1, vs1, d1, ds1, p1, q1, rfl, rfl, rfl, h1, r1⟩ := trodAll_cons r0
  obtain ⟨v2, vs2, d2, ds2, p2, q2, rfl, rfl, rfl, h2, r2⟩ := trodAll_cons r1
  obtain ⟨v3, vs3, d3, ds3, p3, q3, rfl, rfl, rfl, h3, r3⟩ := trodAll_cons r2
  obtain ⟨rfl, rfl, rfl⟩ := trodAll_nil r3
  obtain rfl : args = #[v0, v1, v2, v3] := by cases args; simp_all
  obtain ⟨rfl, rfl⟩ := trodVars_none hV
  obtain ⟨a0, rfl, rfl, rfl, w0⟩ := open_int Try.underlying3 (hval 0 3 v0 rfl rfl) h0
  obtain ⟨a1, len1, cap1, e1⟩ := okWide_slice Try.underlying22 (hval 1 22 v1 rfl rfl)
  obtain ⟨a2, len2, cap2, e2⟩ := okWide_slice Try.underlying22 (hval 2 22 v2 rfl rfl)
  have k1 := h1
  have k2 := h2
  have lt1 : ∀ x ∈ p1, x.block < W.heap.size := by obtain ⟨m, hm⟩ := k1; exact DataW.trod_lt m _ _ _ hm
  have lt2 : ∀ x ∈ p2, x.block < W.heap.size := by obtain ⟨m, hm⟩ := k2; exact DataW.trod_lt m _ _ _ hm
  have y1 : len1 * 8 ≤ 140737488351232 := by
    subst e1
    exact Go.Proofs.YtldfljlklfhjkaaW.PrintWords.sized_ints hsz (j := 1) (t := 22) rfl rfl Try.underlying22 Try.underlying3 (by kernel_rfl) (by kernel_rfl) h1
  obtain ⟨ns, hn1, hs1⟩ := open_row Try.underlying22 Try.underlying3 (by kernel_rfl) e1 h1
  obtain ⟨ps, hn2, hs2⟩ := open_row Try.underlying22 Try.underlying3 (by kernel_rfl) e2 h2
  obtain ⟨a3, rfl, rfl, rfl, w3⟩ := open_int Try.underlying3 (hval 3 3 v3 rfl rfl) h3
  clear hA0 hval0 hsz0 hsz
  refine (PE.Ev.ActDoes_walk a0 a3 v1 v2 ns ps W hs1 hs2 (by omega)).mono fun e W' ⟨he, bel⟩ => ?_
  subst he
  exact ⟨_, rfl, _, _, _, [], _, [], hW', trodAll_mk1 (shut_bool Try.underlying4 _), (trodAll_cons_mk (shut_int Try.underlying3 w0) (trodAll_cons_mk (Below.trod laidOut (by kernel_rfl) (of_decide_eq_true (by kernel_rfl)) k1 bel lt1) (trodAll_cons_mk (Below.trod laidOut (by kernel_rfl) (of_decide_eq_true (by kernel_rfl)) k2 bel lt2) (trodAll_cons_mk (shut_int Try.underlying3 w3) trodAll_mk0)))), rfl, bel.frame _, fun h => by cases h⟩
theorem over : Rows.actDoesRow.holds Try.pinned (OpenSpec.ofChange Rows.actDoesSpec) :=
  OpenClaim.holds_of_wide 3 Try.f3 rfl rfl rfl rfl rfl rfl rfl ⟨rfl, rfl, rfl, rfl, rfl⟩ rfl rfl rfl rfl rfl (by kernel_rfl) Try.func3 (by kernel_rfl)
    (of_decide_eq_true (by kernel_rfl)) (by unfold Func.isWrapper; first | (rw [if_pos (by decide +kernel)]; kernel_rfl) | (rw [if_neg (by decide +kernel)]; exact ⟨rfl, rfl⟩))
    (fun os started H enc _ => lifted os started H enc)
theorem proved : Rows.ActDoesSaid := over
#print axioms proved
end Go.Proofs.Ytldfljlklfhjkaa.actDoes
namespace Go.Proofs.Ytldfljlklfhjkaa
/-- The row, under a short name, for the claim. -/
theorem actDoes_holds : Rows.ActDoesSaid := actDoes.proved
end Go.Proofs.Ytldfljlklfhjkaa
