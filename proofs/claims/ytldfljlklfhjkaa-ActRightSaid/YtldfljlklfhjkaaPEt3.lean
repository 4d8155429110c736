/- Contracts that the evaluator tells: of each function its plain function (what its code comes to), and that each call answers so; written by a program of this session (wip/genev.py). Conditions: that the plain function answers. -/
import Derived.Test.YtldfljlklfhjkaaPEt2
namespace Go.Proofs.Ytldfljlklfhjkaa.PE
open Go.RowKit Go.Proofs.YtldfljlklfhjkaaW.PrintWords Go.Proofs.YtldfljlklfhjkaaW.PrintLast Go.Proofs.YtldfljlklfhjkaaW.PrintMore
set_option linter.unusedVariables false
set_option linter.unusedSimpArgs false
namespace Ev
noncomputable def ActMoney.t {γ : Type} (K : (Bool) → Option γ) (law8_known : (Unit) → Option (Bool)) (law8_within : (Int × Int) → Option (Int)) (law8_Value : (Int × Int × Int) → Option (S27)) (law8_Ref : (Int) → Option (Mom)) (act_Do : (S27 × List S27 × Mom) → Option (S27 × Bool)) (ref8_Do : (S27 × List S27 × Mom) → Option (S27 × Bool)) (ref10_Cmp : (S27 × S27) → Option (Int)) (n0 : Int) (n1 : Int) (n2 : Int) : Option γ :=
  (law8_known ()).bind fun t2 => bm (t2)
    ((law8_within (n0, 10000)).bind fun t4 => (law8_Value (3, n1, n2)).bind fun t5 => (law8_Ref n0).bind fun t6 => (act_Do ({ f0 := 12, f1 := [0, 1] }, [{ f0 := 2, f1 := [t4] }, { f0 := t5.f0, f1 := t5.f1 }], t6.fst, t6.snd.fst, t6.snd.snd.fst, t6.snd.snd.snd.fst, t6.snd.snd.snd.snd.fst, t6.snd.snd.snd.snd.snd)).bind fun t7 => bm (t7.snd)
         ((law8_Ref n0).bind fun t9 => (ref8_Do ({ f0 := 12, f1 := [0, 1] }, [{ f0 := 2, f1 := [t4] }, { f0 := t5.f0, f1 := t5.f1 }], t9.fst, t9.snd.fst, t9.snd.snd.fst, t9.snd.snd.snd.fst, t9.snd.snd.snd.snd.fst, t9.snd.snd.snd.snd.snd)).bind fun t10 => bm (t10.snd)
            ((ref10_Cmp ({ f0 := t7.fst.f0, f1 := t7.fst.f1 }, { f0 := t10.fst.f0, f1 := t10.fst.f1 })).bind fun t12 => if t12 = 0 then (if 1 < (↑t5.f1.length : Int) then (if rd t5.f1 1 ≤ t4.tmod 10 then (if (↑t7.fst.f1.length : Int) = 2 then (if 0 < (↑t7.fst.f1.length : Int) then (if rd t7.fst.f1 0 = t4 then K true
                  else K false)
                 else none)
                else K false)
               else K false)
              else none)
             else K false)
            (K false))
         ((law8_Ref n0).bind fun t9 => (ref8_Do ({ f0 := 12, f1 := [0, 1] }, [{ f0 := 2, f1 := [t4] }, { f0 := t5.f0, f1 := t5.f1 }], t9.fst, t9.snd.fst, t9.snd.snd.fst, t9.snd.snd.snd.fst, t9.snd.snd.snd.snd.fst, t9.snd.snd.snd.snd.snd)).bind fun t10 => bm (t10.snd)
            (K false)
            ((ref10_Cmp ({ f0 := t7.fst.f0, f1 := t7.fst.f1 }, { f0 := t10.fst.f0, f1 := t10.fst.f1 })).bind fun t12 => if t12 = 0 then K true
             else K false)))
    (K false)
set_option maxRecDepth 100000 in
theorem ActMoney.nat {γ : Type} (g : (Bool) → Option γ) (law8_known : (Unit) → Option (Bool)) (law8_within : (Int × Int) → Option (Int)) (law8_Value : (Int × Int × Int) → Option (S27)) (law8_Ref : (Int) → Option (Mom)) (act_Do : (S27 × List S27 × Mom) → Option (S27 × Bool)) (ref8_Do : (S27 × List S27 × Mom) → Option (S27 × Bool)) (ref10_Cmp : (S27 × S27) → Option (Int)) (n0 : Int) (n1 : Int) (n2 : Int) : (ActMoney.t some law8_known law8_within law8_Value law8_Ref act_Do ref8_Do ref10_Cmp n0 n1 n2).bind g = ActMoney.t g law8_known law8_within law8_Value law8_Ref act_Do ref8_Do ref10_Cmp n0 n1 n2 := by
  unfold ActMoney.t
  repeat' first | exact rfl | refine nat_i ?_ ?_ | refine nat_b ?_ ?_ | refine nat_o (fun _ => ?_) | refine nat_m ?_ (fun _ => ?_)
set_option maxRecDepth 100000 in
theorem ActMoney.run (law8_known : (Unit) → Option (Bool)) (law8_within : (Int × Int) → Option (Int)) (law8_Value : (Int × Int × Int) → Option (S27)) (law8_Ref : (Int) → Option (Mom)) (act_Do : (S27 × List S27 × Mom) → Option (S27 × Bool)) (ref8_Do : (S27 × List S27 × Mom) → Option (S27 × Bool)) (ref10_Cmp : (S27 × S27) → Option (Int)) (n0 : Int) (n1 : Int) (n2 : Int) : run ⟨[(17, sp o0 (o1 sB) law8_known), (18, sp (oc sI (o1 sI)) (o1 sI) law8_within), (28, sp (oc sI (oc sI (o1 sI))) (o1 s1) law8_Value), (21, sp (o1 sI) (o1 sM) law8_Ref), (22, sp (oc s1 (oc sV (o1 sM))) (oc s1 (o1 sB)) act_Do), (23, sp (oc s1 (oc sV (o1 sM))) (oc s1 (o1 sB)) ref8_Do), (24, sp (oc s1 (o1 s1)) (o1 sI) ref10_Cmp)], []⟩ 0 Try.f10 ((oc sI (oc sI (o1 sI))).enc (n0, n1, n2)) = ActMoney.t (fun b => some (.ret (packD ((o1 sB).enc b)))) law8_known law8_within law8_Value law8_Ref act_Do ref8_Do ref10_Cmp n0 n1 n2 := by kernel_rfl
noncomputable def ActMoney.F (a : Int × Int × Int) : Option (Bool) := ActMoney.t some law8_known.F interlocutorlaw8_within.F law8_Value.F law8_Ref.F act_Do.F ref8_Do.F ref10_Cmp.F a.1 a.2.1 a.2.2
theorem ActMoney.good : Good 10 (sp (oc sI (oc sI (o1 sI))) (o1 sB) ActMoney.F) := good_tree _ _ _ (Ok.cons law8_known.good (Ok.cons interlocutorlaw8_within.good (Ok.cons law8_Value.good (Ok.cons law8_Ref.good (Ok.cons act_Do.good (Ok.cons ref8_Do.good (Ok.cons ref10_Cmp.good Ok.nil))))))) 0 (fn := Try.f10) (by kernel_rfl) (by kernel_rfl) (by kernel_rfl) fun a => (ActMoney.nat _ law8_known.F interlocutorlaw8_within.F law8_Value.F law8_Ref.F act_Do.F ref8_Do.F ref10_Cmp.F a.1 a.2.1 a.2.2).trans (ActMoney.run law8_known.F interlocutorlaw8_within.F law8_Value.F law8_Ref.F act_Do.F ref8_Do.F ref10_Cmp.F a.1 a.2.1 a.2.2).symm
end Ev
end Go.Proofs.Ytldfljlklfhjkaa.PE
