/- Contracts that the evaluator tells: of each function its plain function (what its code comes to), and that each call answers so; written by a program of this session (wip/genev.py). Conditions: that the plain function answers. -/
import Derived.Test.YtldfljlklfhjkaaPFd5
import Derived.Test.YtldfljlklfhjkaaPFt3
namespace Go.Proofs.Ytldfljlklfhjkaa.PE
open Go.RowKit Go.Proofs.YtldfljlklfhjkaaW.PrintWords Go.Proofs.YtldfljlklfhjkaaW.PrintLast Go.Proofs.YtldfljlklfhjkaaW.PrintMore
set_option linter.unusedVariables false
set_option linter.unusedSimpArgs false
namespace Ev
noncomputable def act_Sign.t {γ : Type} (K : (S27) → Option γ)  (tf0 tt0 tc0 tv0 tl0 : Int) : Option γ :=
  if tc0 = 0 then K ⟨1, [tv0, tl0]⟩
  else if tc0 < 50 then K ⟨2, [tv0]⟩
   else K ⟨3, []⟩
set_option maxRecDepth 100000 in
theorem act_Sign.nat {γ : Type} (g : (S27) → Option γ)  (tf0 tt0 tc0 tv0 tl0 : Int) : (act_Sign.t some tf0 tt0 tc0 tv0 tl0).bind g = act_Sign.t g tf0 tt0 tc0 tv0 tl0 := by
  unfold act_Sign.t
  repeat' first | exact rfl | refine nat_i ?_ ?_ | refine nat_b ?_ ?_ | refine nat_o (fun _ => ?_) | refine nat_m ?_ (fun _ => ?_)
set_option maxRecDepth 100000 in
theorem act_Sign.run  (tf0 tt0 tc0 tv0 tl0 : Int) : run ⟨[], []⟩ 0 Try.f33 ((o1 sT).enc (tf0, tt0, tc0, tv0, tl0)) = act_Sign.t (fun b => some (.ret (packD ((o1 s1).enc b)))) tf0 tt0 tc0 tv0 tl0 := by kernel_rfl
noncomputable def act_Sign.F (a : (Int × Int × Int × Int × Int)) : Option (S27) := act_Sign.t some a.1 a.2.1 a.2.2.1 a.2.2.2.1 a.2.2.2.2
theorem act_Sign.good : Good 33 (sp (o1 sT) (o1 s1) act_Sign.F) := good_tree _ _ _ Ok.nil 0 (fn := Try.f33) (by kernel_rfl) (by kernel_rfl) (by kernel_rfl) fun a => (act_Sign.nat _ a.1 a.2.1 a.2.2.1 a.2.2.2.1 a.2.2.2.2).trans (act_Sign.run a.1 a.2.1 a.2.2.1 a.2.2.2.1 a.2.2.2.2).symm
noncomputable def law8_known.t {γ : Type} (K : (Bool) → Option γ) (act_Do : (S27 × List S27 × Mom) → Option (S27 × Bool)) (act_Year : (S27 × Mom) → Option (Int × Bool)) (act_Right : (S27) → Option (Bool)) (act_Sign : ((Int × Int × Int × Int × Int)) → Option (S27))  : Option γ :=
  (act_Do ({ f0 := 1, f1 := [0, 1, 2] }, [{ f0 := 1, f1 := [24, 2] }, { f0 := 2, f1 := [2] }, { f0 := 1, f1 := [29, 2] }], 2024, 2, 28, 0, 0, 0)).bind fun t2 => bm (t2.snd)
    ((act_Year ({ f0 := (rd_T27 [{ f0 := 1, f1 := [24, 2] }, { f0 := 2, f1 := [2] }, { f0 := 1, f1 := [29, 2] }] 0).f0, f1 := (rd_T27 [{ f0 := 1, f1 := [24, 2] }, { f0 := 2, f1 := [2] }, { f0 := 1, f1 := [29, 2] }] 0).f1 }, 2024, 2, 28, 0, 0, 0)).bind fun t4 => bm (t4.snd)
      ((act_Right { f0 := 0, f1 := [] }).bind fun t6 => bm (t6)
        (K false)
        (if t2.fst.f0 = 4 then (if (↑t2.fst.f1.length : Int) = 3 then (if 0 < (↑t2.fst.f1.length : Int) then (if rd t2.fst.f1 0 = 2024 then (if 2 < (↑t2.fst.f1.length : Int) then (if rd t2.fst.f1 2 = 29 then (if t4.fst = 2024 then (act_Sign (0, 0, 50, 0, 0)).bind fun t15 => if t15.f0 = 3 then K true
                else K false
              else K false)
             else K false)
            else none)
           else K false)
          else none)
         else K false)
        else K false))
      ((act_Right { f0 := 0, f1 := [] }).bind fun t6 => bm (t6)
        (K false)
        (if t2.fst.f0 = 4 then (if (↑t2.fst.f1.length : Int) = 3 then (if 0 < (↑t2.fst.f1.length : Int) then (if rd t2.fst.f1 0 = 2024 then (if 2 < (↑t2.fst.f1.length : Int) then (if rd t2.fst.f1 2 = 29 then K false
             else K false)
            else none)
           else K false)
          else none)
         else K false)
        else K false)))
    ((act_Year ({ f0 := (rd_T27 [{ f0 := 1, f1 := [24, 2] }, { f0 := 2, f1 := [2] }, { f0 := 1, f1 := [29, 2] }] 0).f0, f1 := (rd_T27 [{ f0 := 1, f1 := [24, 2] }, { f0 := 2, f1 := [2] }, { f0 := 1, f1 := [29, 2] }] 0).f1 }, 2024, 2, 28, 0, 0, 0)).bind fun t4 => bm (t4.snd)
      ((act_Right { f0 := 0, f1 := [] }).bind fun t6 => bm (t6)
        (K false)
        (K false))
      ((act_Right { f0 := 0, f1 := [] }).bind fun t6 => bm (t6)
        (K false)
        (K false)))
set_option maxRecDepth 100000 in
theorem law8_known.nat {γ : Type} (g : (Bool) → Option γ) (act_Do : (S27 × List S27 × Mom) → Option (S27 × Bool)) (act_Year : (S27 × Mom) → Option (Int × Bool)) (act_Right : (S27) → Option (Bool)) (act_Sign : ((Int × Int × Int × Int × Int)) → Option (S27))  : (law8_known.t some act_Do act_Year act_Right act_Sign).bind g = law8_known.t g act_Do act_Year act_Right act_Sign := by
  unfold law8_known.t
  repeat' first | exact rfl | refine nat_i ?_ ?_ | refine nat_b ?_ ?_ | refine nat_o (fun _ => ?_) | refine nat_m ?_ (fun _ => ?_)
set_option maxRecDepth 100000 in
theorem law8_known.run (act_Do : (S27 × List S27 × Mom) → Option (S27 × Bool)) (act_Year : (S27 × Mom) → Option (Int × Bool)) (act_Right : (S27) → Option (Bool)) (act_Sign : ((Int × Int × Int × Int × Int)) → Option (S27))  : run ⟨[(22, sp (oc s1 (oc sV (o1 sM))) (oc s1 (o1 sB)) act_Do), (36, sp (oc s1 (o1 sM)) (oc sI (o1 sB)) act_Year), (25, sp (o1 s1) (o1 sB) act_Right), (33, sp (o1 sT) (o1 s1) act_Sign)], []⟩ 0 Try.f17 (o0.enc ()) = law8_known.t (fun b => some (.ret (packD ((o1 sB).enc b)))) act_Do act_Year act_Right act_Sign := by kernel_rfl
noncomputable def law8_known.F (a : Unit) : Option (Bool) := law8_known.t some act_Do.F act_Year.F act_Right.F act_Sign.F
theorem law8_known.good : Good 17 (sp o0 (o1 sB) law8_known.F) := good_tree _ _ _ (Ok.cons act_Do.good (Ok.cons act_Year.good (Ok.cons act_Right.good (Ok.cons act_Sign.good Ok.nil)))) 0 (fn := Try.f17) (by kernel_rfl) (by kernel_rfl) (by kernel_rfl) fun a => (law8_known.nat _ act_Do.F act_Year.F act_Right.F act_Sign.F).trans (law8_known.run act_Do.F act_Year.F act_Right.F act_Sign.F).symm
noncomputable def ActFits.t {γ : Type} (K : (Bool) → Option γ) (law8_known : (Unit) → Option (Bool)) (law8_number : (Int) → Option (S27)) (law8_word : (Int) → Option (S27)) (law8_Value : (Int × Int × Int) → Option (S27)) (law8_within : (Int × Int) → Option (Int)) (law8_Ref : (Int) → Option (Mom)) (act_Do : (S27 × List S27 × Mom) → Option (S27 × Bool)) (ref8_Do : (S27 × List S27 × Mom) → Option (S27 × Bool)) (ref10_Cmp : (S27 × S27) → Option (Int)) (n0 : Int) (n1 : Int) (n2 : Int) (n3 : Int) (n4 : Int) : Option γ :=
  (law8_known ()).bind fun t2 => bm (t2)
    ((law8_number n1).bind fun t4 => (law8_number n2).bind fun t5 => (law8_number n3).bind fun t6 => (law8_word n1).bind fun t7 => (law8_word n2).bind fun t8 => (law8_word n3).bind fun t9 => (law8_Value (0, n1, n2)).bind fun t10 => (law8_Value (0, n3, n4)).bind fun t11 => (law8_Value (1, n2, n3)).bind fun t12 => (law8_Value (3, n1, n2)).bind fun t13 => (law8_Value (5, n3, n1)).bind fun t14 => (law8_Value (5, n1, n2)).bind fun t15 => (law8_within (n0, 16)).bind fun t16 => if 0 ≤ t16 then (if t16 < 16 then (law8_Ref n4).bind fun t19 => (act_Do ({ f0 := t16, f1 := rdR [[9], [0, 1, 2], [4, 2], [0, 1, 2], [0, 1, 5], [6, 8], [0, 4, 5], [3], [0], [0, 1], [0, 1], [9], [4, 9], [0, 4], [10, 11], [6, 7]] t16 }, [{ f0 := t4.f0, f1 := t4.f1 }, { f0 := t5.f0, f1 := t5.f1 }, { f0 := t6.f0, f1 := t6.f1 }, { f0 := t7.f0, f1 := t7.f1 }, { f0 := t8.f0, f1 := t8.f1 }, { f0 := t9.f0, f1 := t9.f1 }, { f0 := t10.f0, f1 := t10.f1 }, { f0 := t11.f0, f1 := t11.f1 }, { f0 := t12.f0, f1 := t12.f1 }, { f0 := t13.f0, f1 := t13.f1 }, { f0 := t14.f0, f1 := t14.f1 }, { f0 := t15.f0, f1 := t15.f1 }], t19.fst, t19.snd.fst, t19.snd.snd.fst, t19.snd.snd.snd.fst, t19.snd.snd.snd.snd.fst, t19.snd.snd.snd.snd.snd)).bind fun t20 => bm (t20.snd)
                      ((ref8_Do ({ f0 := t16, f1 := rdR [[9], [0, 1, 2], [4, 2], [0, 1, 2], [0, 1, 5], [6, 8], [0, 4, 5], [3], [0], [0, 1], [0, 1], [9], [4, 9], [0, 4], [10, 11], [6, 7]] t16 }, [{ f0 := t4.f0, f1 := t4.f1 }, { f0 := t5.f0, f1 := t5.f1 }, { f0 := t6.f0, f1 := t6.f1 }, { f0 := t7.f0, f1 := t7.f1 }, { f0 := t8.f0, f1 := t8.f1 }, { f0 := t9.f0, f1 := t9.f1 }, { f0 := t10.f0, f1 := t10.f1 }, { f0 := t11.f0, f1 := t11.f1 }, { f0 := t12.f0, f1 := t12.f1 }, { f0 := t13.f0, f1 := t13.f1 }, { f0 := t14.f0, f1 := t14.f1 }, { f0 := t15.f0, f1 := t15.f1 }], t19.fst, t19.snd.fst, t19.snd.snd.fst, t19.snd.snd.snd.fst, t19.snd.snd.snd.snd.fst, t19.snd.snd.snd.snd.snd)).bind fun t22 => bm (t22.snd)
                        ((ref10_Cmp ({ f0 := t20.fst.f0, f1 := t20.fst.f1 }, { f0 := t22.fst.f0, f1 := t22.fst.f1 })).bind fun t24 => if t24 = 0 then K true
                         else K false)
                        (K false))
                      ((ref8_Do ({ f0 := t16, f1 := rdR [[9], [0, 1, 2], [4, 2], [0, 1, 2], [0, 1, 5], [6, 8], [0, 4, 5], [3], [0], [0, 1], [0, 1], [9], [4, 9], [0, 4], [10, 11], [6, 7]] t16 }, [{ f0 := t4.f0, f1 := t4.f1 }, { f0 := t5.f0, f1 := t5.f1 }, { f0 := t6.f0, f1 := t6.f1 }, { f0 := t7.f0, f1 := t7.f1 }, { f0 := t8.f0, f1 := t8.f1 }, { f0 := t9.f0, f1 := t9.f1 }, { f0 := t10.f0, f1 := t10.f1 }, { f0 := t11.f0, f1 := t11.f1 }, { f0 := t12.f0, f1 := t12.f1 }, { f0 := t13.f0, f1 := t13.f1 }, { f0 := t14.f0, f1 := t14.f1 }, { f0 := t15.f0, f1 := t15.f1 }], t19.fst, t19.snd.fst, t19.snd.snd.fst, t19.snd.snd.snd.fst, t19.snd.snd.snd.snd.fst, t19.snd.snd.snd.snd.snd)).bind fun t22 => bm (t22.snd)
                        (K false)
                        ((ref10_Cmp ({ f0 := t20.fst.f0, f1 := t20.fst.f1 }, { f0 := t22.fst.f0, f1 := t22.fst.f1 })).bind fun t24 => if t24 = 0 then K true
                         else K false))
                  else none)
                 else none)
    (K false)
set_option maxRecDepth 100000 in
theorem ActFits.nat {γ : Type} (g : (Bool) → Option γ) (law8_known : (Unit) → Option (Bool)) (law8_number : (Int) → Option (S27)) (law8_word : (Int) → Option (S27)) (law8_Value : (Int × Int × Int) → Option (S27)) (law8_within : (Int × Int) → Option (Int)) (law8_Ref : (Int) → Option (Mom)) (act_Do : (S27 × List S27 × Mom) → Option (S27 × Bool)) (ref8_Do : (S27 × List S27 × Mom) → Option (S27 × Bool)) (ref10_Cmp : (S27 × S27) → Option (Int)) (n0 : Int) (n1 : Int) (n2 : Int) (n3 : Int) (n4 : Int) : (ActFits.t some law8_known law8_number law8_word law8_Value law8_within law8_Ref act_Do ref8_Do ref10_Cmp n0 n1 n2 n3 n4).bind g = ActFits.t g law8_known law8_number law8_word law8_Value law8_within law8_Ref act_Do ref8_Do ref10_Cmp n0 n1 n2 n3 n4 := by
  unfold ActFits.t
  repeat' first | exact rfl | refine nat_i ?_ ?_ | refine nat_b ?_ ?_ | refine nat_o (fun _ => ?_) | refine nat_m ?_ (fun _ => ?_)
set_option maxRecDepth 100000 in
theorem ActFits.run (law8_known : (Unit) → Option (Bool)) (law8_number : (Int) → Option (S27)) (law8_word : (Int) → Option (S27)) (law8_Value : (Int × Int × Int) → Option (S27)) (law8_within : (Int × Int) → Option (Int)) (law8_Ref : (Int) → Option (Mom)) (act_Do : (S27 × List S27 × Mom) → Option (S27 × Bool)) (ref8_Do : (S27 × List S27 × Mom) → Option (S27 × Bool)) (ref10_Cmp : (S27 × S27) → Option (Int)) (n0 : Int) (n1 : Int) (n2 : Int) (n3 : Int) (n4 : Int) : run ⟨[(17, sp o0 (o1 sB) law8_known), (26, sp (o1 sI) (o1 s1) law8_number), (27, sp (o1 sI) (o1 s1) law8_word), (28, sp (oc sI (oc sI (o1 sI))) (o1 s1) law8_Value), (18, sp (oc sI (o1 sI)) (o1 sI) law8_within), (21, sp (o1 sI) (o1 sM) law8_Ref), (22, sp (oc s1 (oc sV (o1 sM))) (oc s1 (o1 sB)) act_Do), (23, sp (oc s1 (oc sV (o1 sM))) (oc s1 (o1 sB)) ref8_Do), (24, sp (oc s1 (o1 s1)) (o1 sI) ref10_Cmp)], []⟩ 0 Try.f4 ((oc sI (oc sI (oc sI (oc sI (o1 sI))))).enc (n0, n1, n2, n3, n4)) = ActFits.t (fun b => some (.ret (packD ((o1 sB).enc b)))) law8_known law8_number law8_word law8_Value law8_within law8_Ref act_Do ref8_Do ref10_Cmp n0 n1 n2 n3 n4 := by kernel_rfl
noncomputable def ActFits.F (a : Int × Int × Int × Int × Int) : Option (Bool) := ActFits.t some law8_known.F law8_number.F law8_word.F law8_Value.F interlocutorlaw8_within.F law8_Ref.F act_Do.F ref8_Do.F ref10_Cmp.F a.1 a.2.1 a.2.2.1 a.2.2.2.1 a.2.2.2.2
theorem ActFits.good : Good 4 (sp (oc sI (oc sI (oc sI (oc sI (o1 sI))))) (o1 sB) ActFits.F) := good_tree _ _ _ (Ok.cons law8_known.good (Ok.cons law8_number.good (Ok.cons law8_word.good (Ok.cons law8_Value.good (Ok.cons interlocutorlaw8_within.good (Ok.cons law8_Ref.good (Ok.cons act_Do.good (Ok.cons ref8_Do.good (Ok.cons ref10_Cmp.good Ok.nil))))))))) 0 (fn := Try.f4) (by kernel_rfl) (by kernel_rfl) (by kernel_rfl) fun a => (ActFits.nat _ law8_known.F law8_number.F law8_word.F law8_Value.F interlocutorlaw8_within.F law8_Ref.F act_Do.F ref8_Do.F ref10_Cmp.F a.1 a.2.1 a.2.2.1 a.2.2.2.1 a.2.2.2.2).trans (ActFits.run law8_known.F law8_number.F law8_word.F law8_Value.F interlocutorlaw8_within.F law8_Ref.F act_Do.F ref8_Do.F ref10_Cmp.F a.1 a.2.1 a.2.2.1 a.2.2.2.1 a.2.2.2.2).symm
end Ev
end Go.Proofs.Ytldfljlklfhjkaa.PE
