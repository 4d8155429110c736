/- CivilRight: whether any moment may be is the document's; so is one of which one thing was turned. (the row, out of its plain statement and its walk). Conditions: none. -/
import Derived.Test.YtbdabmegbhobiaaRows
import Derived.Test.YtbdabmegbhobiaaPCivx8
import Derived.Test.YtbdabmegbhobiaaPureCivilRight
import Derived.WalkKit
import Derived.ProofKit
import Derived.OpenShut
import Derived.ShutString
import Derived.ChangeOld
import Derived.Below
import Derived.SizedLaws
namespace Go.Proofs.Ytbdabmegbhobiaa.civilRight
open Go.ChangeShapes Go.WideShapes Go.ChangeAt Go.RowKit
set_option linter.unusedVariables false
/-- A struct of six whole numbers, by value: its value, written out. -/
theorem open_six {H : Type} {enc : TypeId × Value → H} {P : Program} {w : World} {base : Nat} {spare : Nat → Bool} {held : Bool} {r : Reach} {b0 : Nat} {t e : TypeId} {f0 f1 f2 f3 f4 f5 : Field} {v : Value} {d : DataW H} {p : List MemPlace}
    (hs : P.underlying t = some (.struct #[f0, f1, f2, f3, f4, f5])) (he : P.underlying e = some (.int .i64)) (hC : P.cellsOf t = 6) (hE : P.cellsOf e = 1)
    (ht : f0.type = e ∧ f1.type = e ∧ f2.type = e ∧ f3.type = e ∧ f4.type = e ∧ f5.type = e) (ho : f0.offset = 0 ∧ f1.offset = 1 ∧ f2.offset = 2 ∧ f3.offset = 3 ∧ f4.offset = 4 ∧ f5.offset = 5)
    (hv : Value.okWide P w r b0 t v) (h : DataW.Trod enc P w base spare held t v d p) :
    ∃ a0 a1 a2 a3 a4 a5 : Int, v = .agg #[.int .i64 a0, .int .i64 a1, .int .i64 a2, .int .i64 a3, .int .i64 a4, .int .i64 a5] := by
  obtain ⟨cs, rfl, hsz⟩ := okWide_struct hs hv
  obtain ⟨l⟩ := cs
  rw [hC] at hsz
  match l, hsz with
  | [c0, c1, c2, c3, c4, c5], _ =>
    obtain ⟨fuel, hf⟩ := h
    obtain ⟨xs, n, _, _, _, hlen, hg⟩ := DataW.trod_struct hs hf
    obtain ⟨t0, t1, t2, t3, t4, t5⟩ := ht
    obtain ⟨o0, o1, o2, o3, o4, o5⟩ := ho
    have key : ∀ (i : Nat) (f : Field) (c : Value), #[f0, f1, f2, f3, f4, f5][i]? = some f → f.type = e → (([c0, c1, c2, c3, c4, c5].drop f.offset).take 1 = [c]) → i < 6 → ∃ a : Int, c = .int .i64 a := by
      intro i f c hi hte hd hlt
      have h1 := hg i f hi
      rw [hte, hE] at h1
      have hx : ∃ x, xs[i]? = some x := ⟨xs[i]'(by rw [hlen]; exact hlt), List.getElem?_eq_getElem _⟩
      obtain ⟨x, hx⟩ := hx
      rw [hx] at h1
      obtain ⟨a, ha, _, _⟩ := DataW.trod_int he h1
      have : [c] = [Value.int .i64 a] := hd.symm.trans ha
      exact ⟨a, by injection this⟩
    obtain ⟨a0, rfl⟩ := key 0 f0 c0 rfl t0 (by rw [o0]; rfl) (by omega)
    obtain ⟨a1, rfl⟩ := key 1 f1 c1 rfl t1 (by rw [o1]; rfl) (by omega)
    obtain ⟨a2, rfl⟩ := key 2 f2 c2 rfl t2 (by rw [o2]; rfl) (by omega)
    obtain ⟨a3, rfl⟩ := key 3 f3 c3 rfl t3 (by rw [o3]; rfl) (by omega)
    obtain ⟨a4, rfl⟩ := key 4 f4 c4 rfl t4 (by rw [o4]; rfl) (by omega)
    obtain ⟨a5, rfl⟩ := key 5 f5 c5 rfl t5 (by rw [o5]; rfl) (by omega)
    exact ⟨a0, a1, a2, a3, a4, a5, rfl⟩
theorem own : ownKnob Try.prog.godebug = none := by kernel_rfl
theorem laidOut : laidOutB Try.prog = true := by kernel_rfl
set_option maxRecDepth 100000 in
theorem lifted (os : Os) (started : os.Started) (H : Type) (enc : TypeId × Value → H) :
    ReturnsInHanded {} Try.checked os 13 .any (Rows.civilRightSpec.pre6 enc Try.prog Try.f13 Rows.civilRightRow.domain false) (Rows.civilRightSpec.post enc Try.prog Try.f13 false true false false) := by
  refine returnsInHanded_of_change_sized (C := Try.checked) own started (by kernel_rfl) Try.func13
    (ChangeSpec.witness6 (enc := enc) (C := Try.checked) false ⟨#[], #[.agg #[.int .i64 0, .int .i64 0, .int .i64 0, .int .i64 0, .int .i64 0, .int .i64 0], .int .i64 0, .int .i64 0, .int .i64 0, .int .i64 0], []⟩ 8 (by kernel_rfl) (by kernel_rfl) (by kernel_rfl) (by kernel_rfl)) ?_
  intro W base args ds gs before hval0 hW hcnd hsz0 _
  have hval : ∀ (j : Nat) t v, Try.f13.params[j]? = some t → args[j]? = some v → Value.okWide Try.prog W .any base t v := hval0
  have hW' := hW
  obtain ⟨p, q, hA0, hV, rfl, hfz, hnd⟩ := hW
  have hA : DataW.TrodAll enc Try.prog W 0 (fun _ => true) true Try.f13.params.toList args.toList ds p := hA0
  rw [Try.params13] at hA hval
  obtain ⟨v0, vs0, d0, ds0, p0, q0, hargs, rfl, rfl, h0, r0⟩ := trodAll_cons hA
  obtain ⟨v1, vs1, d1, ds1, p1, q1, rfl, rfl, rfl, h1, r1⟩ := trodAll_cons r0
  obtain ⟨v2, vs2, d2, ds2, p2, q2, rfl, rfl, rfl, h2, r2⟩ := trodAll_cons r1
  obtain ⟨v3, vs3, d3, ds3, p3, q3, rfl, rfl, rfl, h3, r3⟩ := trodAll_cons r2
  obtain ⟨v4, vs4, d4, ds4, p4, q4, rfl, rfl, rfl, h4, r4⟩ := trodAll_cons r3
  obtain ⟨rfl, rfl, rfl⟩ := trodAll_nil r4
  obtain rfl : args = #[v0, v1, v2, v3, v4] := by cases args; simp_all
  obtain ⟨rfl, rfl⟩ := trodVars_none hV
  have k0 := h0
  have lt0 : ∀ x ∈ p0, x.block < W.heap.size := by obtain ⟨m, hm⟩ := k0; exact DataW.trod_lt m _ _ _ hm
  obtain ⟨b0, b1, b2, b3, b4, b5, rfl⟩ := open_six Try.underlying36 Try.underlying3 (by kernel_rfl) (by kernel_rfl) ⟨rfl, rfl, rfl, rfl, rfl, rfl⟩ ⟨rfl, rfl, rfl, rfl, rfl, rfl⟩ (hval 0 36 v0 rfl rfl) h0
  obtain ⟨a1, rfl, rfl, rfl, w1⟩ := open_int Try.underlying3 (hval 1 3 v1 rfl rfl) h1
  obtain ⟨a2, rfl, rfl, rfl, w2⟩ := open_int Try.underlying3 (hval 2 3 v2 rfl rfl) h2
  obtain ⟨a3, rfl, rfl, rfl, w3⟩ := open_int Try.underlying3 (hval 3 3 v3 rfl rfl) h3
  obtain ⟨a4, rfl, rfl, rfl, w4⟩ := open_int Try.underlying3 (hval 4 3 v4 rfl rfl) h4
  clear hA0 hval0 hsz0
  refine (PCiv.interlocutorlaw1_CivilRight.calls 1 b0 b1 b2 b3 b4 b5 a1 a2 a3 a4 true W (Pure.CivilRight b0 b1 b2 b3 b4 b5 a1 a2 a3 a4 w1 w2 w3 w4)).mono fun e W' ⟨he, bel⟩ => ?_
  subst he
  exact ⟨_, rfl, _, _, _, [], _, [], hW', trodAll_mk1 (shut_bool Try.underlying4 _), (trodAll_cons_mk (Below.trod laidOut (by kernel_rfl) (of_decide_eq_true (by kernel_rfl)) k0 bel lt0) (trodAll_cons_mk (shut_int Try.underlying3 w1) (trodAll_cons_mk (shut_int Try.underlying3 w2) (trodAll_cons_mk (shut_int Try.underlying3 w3) (trodAll_cons_mk (shut_int Try.underlying3 w4) trodAll_mk0))))), rfl, bel.frame _, fun h => by cases h⟩
theorem over : Rows.civilRightRow.holds Try.pinned (OpenSpec.ofChange Rows.civilRightSpec) :=
  OpenClaim.holds_of_wide 13 Try.f13 rfl rfl rfl rfl rfl rfl rfl ⟨rfl, rfl, rfl, rfl, rfl⟩ rfl rfl rfl rfl rfl (by kernel_rfl) Try.func13 (by kernel_rfl)
    (of_decide_eq_true (by kernel_rfl)) (by unfold Func.isWrapper; first | (rw [if_pos (by decide +kernel)]; kernel_rfl) | (rw [if_neg (by decide +kernel)]; exact ⟨rfl, rfl⟩))
    (fun os started H enc _ => lifted os started H enc)
theorem proved : Rows.CivilRightSaid := over
#print axioms proved
end Go.Proofs.Ytbdabmegbhobiaa.civilRight
namespace Go.Proofs.Ytbdabmegbhobiaa
/-- The row, under a short name, for the claim. -/
theorem civilRight_holds : Rows.CivilRightSaid := civilRight.proved
end Go.Proofs.Ytbdabmegbhobiaa
