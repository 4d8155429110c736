/- Contracts that the evaluator tells: of each function its plain function (what its code comes to), and that each call answers so; written by a program of this session (wip/genev.py). Conditions: that the plain function answers. -/
import Derived.Test.YtldfljlklfhjkaaPFd5
import Derived.Test.YtldfljlklfhjkaaPFt3
namespace Go.Proofs.Ytldfljlklfhjkaa.PE
open Go.RowKit Go.Proofs.YtldfljlklfhjkaaW.PrintWords Go.Proofs.YtldfljlklfhjkaaW.PrintLast Go.Proofs.YtldfljlklfhjkaaW.PrintMore
set_option linter.unusedVariables false
set_option linter.unusedSimpArgs false
namespace Ev
noncomputable def act_Sign.t {γ : Type} (K : (S27) → Option γ)  (tf0 tt0 tc0 tv0 tl0 : Int) : Option γ :=
  if tc0 = 0 then K ⟨1, [tv0, tl0]⟩
  else if tc0 < 50 then K ⟨2, [tv0]⟩
   else K ⟨3, []⟩
set_option maxRecDepth 100000 in
theorem act_Sign.nat {γ : Type} (g : (S27) → Option γ)  (tf0 tt0 tc0 tv0 tl0 : Int) : (act_Sign.t some tf0 tt0 tc0 tv0 tl0).bind g = act_Sign.t g tf0 tt0 tc0 tv0 tl0 := by
  unfold act_Sign.t
  repeat' first | exact rfl | refine nat_i ?_ ?_ | refine nat_b ?_ ?_ | refine nat_o (fun _ => ?_) | refine nat_m ?_ (fun _ => ?_)
set_option maxRecDepth 100000 in
theorem act_Sign.run  (tf0 tt0 tc0 tv0 tl0 : Int) : run ⟨[], []⟩ 0 Try.f33 ((o1 sT).enc (tf0, tt0, tc0, tv0, tl0)) = act_Sign.t (fun b => some (.ret (packD ((o1 s1).enc b)))) tf0 tt0 tc0 tv0 tl0 := by kernel_rfl
noncomputable def act_Sign.F (a : (Int × Int × Int × Int × Int)) : Option (S27) := act_Sign.t some a.1 a.2.1 a.2.2.1 a.2.2.2.1 a.2.2.2.2
theorem act_Sign.good : Good 33 (sp (o1 sT) (o1 s1) act_Sign.F) := good_tree _ _ _ Ok.nil 0 (fn := Try.f33) (by kernel_rfl) (by kernel_rfl) (by kernel_rfl) fun a => (act_Sign.nat _ a.1 a.2.1 a.2.2.1 a.2.2.2.1 a.2.2.2.2).trans (act_Sign.run a.1 a.2.1 a.2.2.1 a.2.2.2.1 a.2.2.2.2).symm
noncomputable def law8_known.t {γ : Type} (K : (Bool) → Option γ) (act_Do : (S27 × List S27 × Mom) → Option (S27 × Bool)) (act_Year : (S27 × Mom) → Option (Int × Bool)) (act_Right : (S27) → Option (Bool)) (act_Sign : ((Int × Int × Int × Int × Int)) → Option (S27))  : Option γ :=
  (act_Do ({ f0 := 1, f1 := [0, 1, 2] }, [{ f0 := 1, f1 := [24, 2] }, { f0 := 2, f1 := [2] }, { f0 := 1, f1 := [29, 2] }], 2024, 2, 28, 0, 0, 0)).bind fun t2 => bm (t2.snd)
    ((act_Year ({ f0 := (rd_T27 [{ f0 := 1, f1 := [24, 2] }, { f0 := 2, f1 := [2] }, { f0 := 1, f1 := [29, 2] }] 0).f0, f1 := (rd_T27 [{ f0 := 1, f1 := [24, 2] }, { f0 := 2, f1 := [2] }, { f0 := 1, f1 := [29, 2] }] 0).f1 }, 2024, 2, 28, 0, 0, 0)).bind fun t4 => bm (t4.snd)
      ((act_Right { f0 := 0, f1 := [] }).bind fun t6 => bm (t6)
        (K false)
        (if t2.fst.f0 = 4 then (if (↑t2.fst.f1.length : Int) = 3 then (if 0 < (↑t2.fst.f1.length : Int) then (if rd t2.fst.f1 0 = 2024 then (if 2 < (↑t2.fst.f1.length : Int) then (if rd t2.fst.f1 2 = 29 then (if t4.fst = 2024 then (act_Sign (0, 0, 50, 0, 0)).bind fun t15 => if t15.f0 = 3 then K true
                else K false
              else K false)
             else K false)
            else none)
           else K false)
          else none)
         else K false)
        else K false))
      ((act_Right { f0 := 0, f1 := [] }).bind fun t6 => bm (t6)
        (K false)
        (if t2.fst.f0 = 4 then (if (↑t2.fst.f1.length : Int) = 3 then (if 0 < (↑t2.fst.f1.length : Int) then (if rd t2.fst.f1 0 = 2024 then (if 2 < (↑t2.fst.f1.length : Int) then (if rd t2.fst.f1 2 = 29 then K false
             else K false)
            else none)
           else K false)
          else none)
         else K false)
        else K false)))
    ((act_Year ({ f0 := (rd_T27 [{ f0 := 1, f1 := [24, 2] }, { f0 := 2, f1 := [2] }, { f0 := 1, f1 := [29, 2] }] 0).f0, f1 := (rd_T27 [{ f0 := 1, f1 := [24, 2] }, { f0 := 2, f1 := [2] }, { f0 := 1, f1 := [29, 2] }] 0).f1 }, 2024, 2, 28, 0, 0, 0)).bind fun t4 => bm (t4.snd)
      ((act_Right { f0 := 0, f1 := [] }).bind fun t6 => bm (t6)
        (K false)
        (K false))
      ((act_Right { f0 := 0, f1 := [] }).bind fun t6 => bm (t6)
        (K false)
        (K false)))
set_option maxRecDepth 100000 in
theorem law8_known.nat {γ : Type} (g : (Bool) → Option γ) (act_Do : (S27 × List S27 × Mom) → Option (S27 × Bool)) (act_Year : (S27 × Mom) → Option (Int × Bool)) (act_Right : (S27) → Option (Bool)) (act_Sign : ((Int × Int × Int × Int × Int)) → Option (S27))  : (law8_known.t some act_Do act_Year act_Right act_Sign).bind g = law8_known.t g act_Do act_Year act_Right act_Sign := by
  unfold law8_known.t
  repeat' first | exact rfl | refine nat_i ?_ ?_ | refine nat_b ?_ ?_ | refine nat_o (fun _ => ?_) | refine nat_m ?_ (fun _ => ?_)
set_option maxRecDepth 100000 in
theorem law8_known.run (act_Do : (S27 × List S27 × Mom) → Option (S27 × Bool)) (act_Year : (S27 × Mom) → Option (Int × Bool)) (act_Right : (S27) → Option (Bool)) (act_Sign : ((Int × Int × Int × Int × Int)) → Option (S27))  : run ⟨[(22, sp (oc s1 (oc sV (o1 sM))) (oc s1 (o1 sB)) act_Do), (36, sp (oc s1 (o1 sM)) (oc sI (o1 sB)) act_Year), (25, sp (o1 s1) (o1 sB) act_Right), (33, sp (o1 sT) (o1 s1) act_Sign)], []⟩ 0 Try.f17 (o0.enc ()) = law8_known.t (fun b => some (.ret (packD ((o1 sB).enc b)))) act_Do act_Year act_Right act_Sign := by kernel_rfl
noncomputable def law8_known.F (a : Unit) : Option (Bool) := law8_known.t some act_Do.F act_Year.F act_Right.F act_Sign.F
theorem law8_known.good : Good 17 (sp o0 (o1 sB) law8_known.F) := good_tree _ _ _ (Ok.cons act_Do.good (Ok.cons act_Year.good (Ok.cons act_Right.good (Ok.cons act_Sign.good Ok.nil)))) 0 (fn := Try.f17) (by kernel_rfl) (by kernel_rfl) (by kernel_rfl) fun a => (law8_known.nat _ act_Do.F act_Year.F act_Right.F act_Sign.F).trans (law8_known.run act_Do.F act_Year.F act_Right.F act_Sign.F).symm
end Ev
end Go.Proofs.Ytldfljlklfhjkaa.PE
