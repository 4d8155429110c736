/- The contracts of act.Do and of known, as the evaluator takes them. Conditions: that the plain function answers. -/
import Derived.Test.YtldfljlklfhjkaaPEg1
namespace Go.Proofs.Ytldfljlklfhjkaa.PE
open Go.RowKit Go.Proofs.YtldfljlklfhjkaaW.PrintWords Go.Proofs.YtldfljlklfhjkaaW.PrintLast Go.Proofs.YtldfljlklfhjkaaW.PrintMore
set_option linter.unusedVariables false
set_option linter.unusedSimpArgs false
namespace Ev
noncomputable def law8_known.F (_ : Unit) : Option Bool := some true
theorem law8_known.good : Good 17 (sp o0 (o1 sB) law8_known.F) := good_of _ _ _ (fn := Try.f17) (by kernel_rfl) (by kernel_rfl) (by kernel_rfl) fun a b hF S w args hS ha => by
  obtain ⟨l⟩ := args
  match l, ha with
  | [], _ =>
    obtain rfl := Option.some.inj hF
    exact (interlocutorlaw8_known.calls true w rfl).mono fun e w' ⟨he, hb⟩ => ⟨⟨_, he, rfl⟩, hb⟩
noncomputable def act_Do.F (a : S27 × List S27 × Mom) : Option (S27 × Bool) := (act_Do.f 100 a.1.f0 a.1.f1 a.2.1 a.2.2.1 a.2.2.2.1 a.2.2.2.2.1 a.2.2.2.2.2.1 a.2.2.2.2.2.2.1 a.2.2.2.2.2.2.2).map fun r => (⟨r.1, r.2.1⟩, r.2.2)
theorem act_Do.good : Good 22 (sp (oc s1 (oc sV (o1 sM))) (oc s1 (o1 sB)) act_Do.F) := good_of _ _ _ (fn := Try.f22) (by kernel_rfl) (by kernel_rfl) (by kernel_rfl) fun a b hF S w args hS ha => by
  obtain ⟨l⟩ := args
  match l, ha with
  | [v0, v1, v2], ⟨⟨arr0, e0, h0⟩, h1, ⟨arr2, e2, h2⟩, _⟩ =>
    obtain ⟨x, y, e3, g1, g2⟩ := two h0
    have e4 := arr_M arr2 h2
    obtain ⟨A0, c0, e5, k1, k2⟩ := g2.1.kd
    obtain ⟨A1, c1, e6, k3, k4⟩ := h1.1.kd
    obtain ⟨arr0⟩ := arr0
    have e3 : arr0 = [x, y] := e3
    have g1 : x = .int .i64 a.1.f0 := g1
    subst e4 e0 e2 e3 e5 e6 g1
    obtain ⟨⟨r1, r2, r3⟩, hr, rfl⟩ := Option.map_eq_some_iff.1 hF
    refine (act_Do.calls 100 _ A0 c0 _ A1 c1 _ _ _ _ _ _ _ r1 r2 r3 w k2 k1 k4 k3 hr).mono fun e w' ⟨v, he, hR, hb⟩ => ⟨⟨_, he, _, rfl, ⟨_, rfl, rfl, ⟨SlI.of_R hR hS, nofalse⟩, trivial⟩, rfl, trivial⟩, hb⟩
end Ev
end Go.Proofs.Ytldfljlklfhjkaa.PE
