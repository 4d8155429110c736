/- Contracts that the evaluator tells: of each function its plain function (what its code comes to), and that each call answers so; written by a program of this session (wip/genev.py). Conditions: that the plain function answers. -/
import Derived.Test.YtldfljlklfhjkaaPFt1
import Derived.Test.YtldfljlklfhjkaaPFc1
namespace Go.Proofs.Ytldfljlklfhjkaa.PE
open Go.RowKit Go.Proofs.YtldfljlklfhjkaaW.PrintWords Go.Proofs.YtldfljlklfhjkaaW.PrintLast Go.Proofs.YtldfljlklfhjkaaW.PrintMore
set_option linter.unusedVariables false
set_option linter.unusedSimpArgs false
namespace Ev
noncomputable def act_moment.t {γ : Type} (K : (S27) → Option γ) (KD : Option γ) (act_of : ((Int × List S27 × Mom) × Int × Int) → Option (Option (List Int))) (Concat : (List (List Int)) → Option (List Int)) (act_value : (Int × List Int) → Option (S27)) (op : Int) (l : List S27) (ry rm rd_ rh ri rs : Int) : Option γ :=
  (act_of ((op, l, ry, rm, rd_, rh, ri, rs), 0, 4)).bind fun t2 => om (t2) (KD) fun t3 => (act_of ((op, l, ry, rm, rd_, rh, ri, rs), 1, 5)).bind fun t4 => om (t4) (KD) fun t5 => (Concat [t3, t5]).bind fun t6 => (act_value (6, t6)).bind fun t7 => K ⟨t7.f0, t7.f1⟩
set_option maxRecDepth 100000 in
theorem act_moment.nat {γ : Type} (g : (Option (S27)) → Option γ) (act_of : ((Int × List S27 × Mom) × Int × Int) → Option (Option (List Int))) (Concat : (List (List Int)) → Option (List Int)) (act_value : (Int × List Int) → Option (S27)) (op : Int) (l : List S27) (ry rm rd_ rh ri rs : Int) : (act_moment.t (fun b => some (some b)) (some none) act_of Concat act_value op l ry rm rd_ rh ri rs).bind g = act_moment.t (fun b => g (some b)) (g none) act_of Concat act_value op l ry rm rd_ rh ri rs := by
  unfold act_moment.t
  repeat' first | exact rfl | refine nat_i ?_ ?_ | refine nat_b ?_ ?_ | refine nat_o (fun _ => ?_) | refine nat_m ?_ (fun _ => ?_)
set_option maxRecDepth 100000 in
theorem act_moment.run (act_of : ((Int × List S27 × Mom) × Int × Int) → Option (Option (List Int))) (Concat : (List (List Int)) → Option (List Int)) (act_value : (Int × List Int) → Option (S27)) (op : Int) (l : List S27) (ry rm rd_ rh ri rs : Int) : run ⟨[(95, spd (oc sK (oc sI (o1 sI))) (o1 sL) act_of), (94, sp (o1 sR) (o1 sL) Concat), (40, sp (oc sI (o1 sL)) (o1 s1) act_value)], []⟩ 0 Try.f63 ((o1 sK).enc (op, l, ry, rm, rd_, rh, ri, rs)) = act_moment.t (fun b => some (outOf (o1 s1) (some b))) (some .dies) act_of Concat act_value op l ry rm rd_ rh ri rs := by kernel_rfl
noncomputable def act_moment.F (a : (Int × List S27 × Mom)) : Option (Option (S27)) := act_moment.t (fun b => some (some b)) (some none) act_of.F slices_Concat.F act_value.F a.1 a.2.1 a.2.2.1 a.2.2.2.1 a.2.2.2.2.1 a.2.2.2.2.2.1 a.2.2.2.2.2.2.1 a.2.2.2.2.2.2.2
theorem act_moment.good : Good 63 (spd (o1 sK) (o1 s1) act_moment.F) := good_treed _ _ _ (Ok.cons act_of.good (Ok.cons slices_Concat.good (Ok.cons act_value.good Ok.nil))) 0 (fn := Try.f63) (by kernel_rfl) (by kernel_rfl) (by kernel_rfl) fun a => (act_moment.nat _ act_of.F slices_Concat.F act_value.F a.1 a.2.1 a.2.2.1 a.2.2.2.1 a.2.2.2.2.1 a.2.2.2.2.2.1 a.2.2.2.2.2.2.1 a.2.2.2.2.2.2.2).trans (act_moment.run act_of.F slices_Concat.F act_value.F a.1 a.2.1 a.2.2.1 a.2.2.2.1 a.2.2.2.2.1 a.2.2.2.2.2.1 a.2.2.2.2.2.2.1 a.2.2.2.2.2.2.2).symm
noncomputable def act_span.t {γ : Type} (K : (S27) → Option γ) (KD : Option γ) (act_of : ((Int × List S27 × Mom) × Int × Int) → Option (Option (List Int))) (Concat : (List (List Int)) → Option (List Int)) (act_value : (Int × List Int) → Option (S27)) (op : Int) (l : List S27) (ry rm rd_ rh ri rs : Int) : Option γ :=
  (act_of ((op, l, ry, rm, rd_, rh, ri, rs), 0, 4)).bind fun t2 => om (t2) (KD) fun t3 => (act_of ((op, l, ry, rm, rd_, rh, ri, rs), 1, 4)).bind fun t4 => om (t4) (KD) fun t5 => (Concat [t3, t5]).bind fun t6 => (act_value (10, t6)).bind fun t7 => K ⟨t7.f0, t7.f1⟩
set_option maxRecDepth 100000 in
theorem act_span.nat {γ : Type} (g : (Option (S27)) → Option γ) (act_of : ((Int × List S27 × Mom) × Int × Int) → Option (Option (List Int))) (Concat : (List (List Int)) → Option (List Int)) (act_value : (Int × List Int) → Option (S27)) (op : Int) (l : List S27) (ry rm rd_ rh ri rs : Int) : (act_span.t (fun b => some (some b)) (some none) act_of Concat act_value op l ry rm rd_ rh ri rs).bind g = act_span.t (fun b => g (some b)) (g none) act_of Concat act_value op l ry rm rd_ rh ri rs := by
  unfold act_span.t
  repeat' first | exact rfl | refine nat_i ?_ ?_ | refine nat_b ?_ ?_ | refine nat_o (fun _ => ?_) | refine nat_m ?_ (fun _ => ?_)
set_option maxRecDepth 100000 in
theorem act_span.run (act_of : ((Int × List S27 × Mom) × Int × Int) → Option (Option (List Int))) (Concat : (List (List Int)) → Option (List Int)) (act_value : (Int × List Int) → Option (S27)) (op : Int) (l : List S27) (ry rm rd_ rh ri rs : Int) : run ⟨[(95, spd (oc sK (oc sI (o1 sI))) (o1 sL) act_of), (94, sp (o1 sR) (o1 sL) Concat), (40, sp (oc sI (o1 sL)) (o1 s1) act_value)], []⟩ 0 Try.f73 ((o1 sK).enc (op, l, ry, rm, rd_, rh, ri, rs)) = act_span.t (fun b => some (outOf (o1 s1) (some b))) (some .dies) act_of Concat act_value op l ry rm rd_ rh ri rs := by kernel_rfl
noncomputable def act_span.F (a : (Int × List S27 × Mom)) : Option (Option (S27)) := act_span.t (fun b => some (some b)) (some none) act_of.F slices_Concat.F act_value.F a.1 a.2.1 a.2.2.1 a.2.2.2.1 a.2.2.2.2.1 a.2.2.2.2.2.1 a.2.2.2.2.2.2.1 a.2.2.2.2.2.2.2
theorem act_span.good : Good 73 (spd (o1 sK) (o1 s1) act_span.F) := good_treed _ _ _ (Ok.cons act_of.good (Ok.cons slices_Concat.good (Ok.cons act_value.good Ok.nil))) 0 (fn := Try.f73) (by kernel_rfl) (by kernel_rfl) (by kernel_rfl) fun a => (act_span.nat _ act_of.F slices_Concat.F act_value.F a.1 a.2.1 a.2.2.1 a.2.2.2.1 a.2.2.2.2.1 a.2.2.2.2.2.1 a.2.2.2.2.2.2.1 a.2.2.2.2.2.2.2).trans (act_span.run act_of.F slices_Concat.F act_value.F a.1 a.2.1 a.2.2.1 a.2.2.2.1 a.2.2.2.2.1 a.2.2.2.2.2.1 a.2.2.2.2.2.2.1 a.2.2.2.2.2.2.2).symm
end Ev
end Go.Proofs.Ytldfljlklfhjkaa.PE
