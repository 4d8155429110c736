/- Contracts that the evaluator tells: of each function its plain function (what its code comes to), and that each call answers so; written by a program of this session (wip/genev.py). Conditions: that the plain function answers. -/
import Derived.Test.YtldfljlklfhjkaaPEg2
namespace Go.Proofs.Ytldfljlklfhjkaa.PE
open Go.RowKit Go.Proofs.YtldfljlklfhjkaaW.PrintWords Go.Proofs.YtldfljlklfhjkaaW.PrintLast Go.Proofs.YtldfljlklfhjkaaW.PrintMore
set_option linter.unusedVariables false
set_option linter.unusedSimpArgs false
namespace Ev
noncomputable def act_fields.t {γ : Type} (K : (Int) → Option γ)  (n0 : Int) : Option γ :=
  if n0 < 4 then K (-1)
  else if n0 > 10 then K (-1)
   else if 0 ≤ wrap64 (n0 - 4) then (if wrap64 (n0 - 4) < 7 then K (rd [3, 3, 6, 2, 2, 1, 6] (wrap64 (n0 - 4)))
     else none)
    else none
set_option maxRecDepth 100000 in
theorem act_fields.nat {γ : Type} (g : (Int) → Option γ)  (n0 : Int) : (act_fields.t some n0).bind g = act_fields.t g n0 := by
  unfold act_fields.t
  repeat' first | exact rfl | refine nat_i ?_ ?_ | refine nat_b ?_ ?_ | refine nat_o (fun _ => ?_) | refine nat_m ?_ (fun _ => ?_)
set_option maxRecDepth 100000 in
theorem act_fields.run  (n0 : Int) : run ⟨[], []⟩ 0 Try.f44 ((o1 sI).enc n0) = act_fields.t (fun b => some (.ret (packD ((o1 sI).enc b)))) n0 := by kernel_rfl
noncomputable def act_fields.F (a : Int) : Option (Int) := act_fields.t some a
theorem act_fields.good : Good 44 (sp (o1 sI) (o1 sI) act_fields.F) := good_tree _ _ _ Ok.nil 0 (fn := Try.f44) (by kernel_rfl) (by kernel_rfl) (by kernel_rfl) fun a => (act_fields.nat _ a).trans (act_fields.run a).symm
noncomputable def act_day.t {γ : Type} (K : (Bool) → Option γ) (civil_Right : (Mom) → Option (Bool)) (f0 : List Int) : Option γ :=
  if 0 < (↑f0.length : Int) then (if 1 < (↑f0.length : Int) then (if 2 < (↑f0.length : Int) then (civil_Right (rd f0 0, rd f0 1, rd f0 2, 0, 0, 0)).bind fun t5 => bm (t5)
       (K true)
       (K false)
    else none)
   else none)
  else none
set_option maxRecDepth 100000 in
theorem act_day.nat {γ : Type} (g : (Bool) → Option γ) (civil_Right : (Mom) → Option (Bool)) (f0 : List Int) : (act_day.t some civil_Right f0).bind g = act_day.t g civil_Right f0 := by
  unfold act_day.t
  repeat' first | exact rfl | refine nat_i ?_ ?_ | refine nat_b ?_ ?_ | refine nat_o (fun _ => ?_) | refine nat_m ?_ (fun _ => ?_)
set_option maxRecDepth 100000 in
theorem act_day.run (civil_Right : (Mom) → Option (Bool)) (f0 : List Int) : run ⟨[(85, sp (o1 sM) (o1 sB) civil_Right)], []⟩ 0 Try.f45 ((o1 sL).enc f0) = act_day.t (fun b => some (.ret (packD ((o1 sB).enc b)))) civil_Right f0 := by kernel_rfl
noncomputable def act_day.F (a : List Int) : Option (Bool) := act_day.t some civil_Right.F a
theorem act_day.good : Good 45 (sp (o1 sL) (o1 sB) act_day.F) := good_tree _ _ _ (Ok.cons civil_Right.good Ok.nil) 0 (fn := Try.f45) (by kernel_rfl) (by kernel_rfl) (by kernel_rfl) fun a => (act_day.nat _ civil_Right.F a).trans (act_day.run civil_Right.F a).symm
noncomputable def act_time.t {γ : Type} (K : (Bool) → Option γ) (civil_Right : (Mom) → Option (Bool)) (f0 : List Int) : Option γ :=
  if 0 < (↑f0.length : Int) then (if 1 < (↑f0.length : Int) then (if 2 < (↑f0.length : Int) then (civil_Right (1, 1, 1, rd f0 0, rd f0 1, rd f0 2)).bind fun t5 => bm (t5)
       (K true)
       (K false)
    else none)
   else none)
  else none
set_option maxRecDepth 100000 in
theorem act_time.nat {γ : Type} (g : (Bool) → Option γ) (civil_Right : (Mom) → Option (Bool)) (f0 : List Int) : (act_time.t some civil_Right f0).bind g = act_time.t g civil_Right f0 := by
  unfold act_time.t
  repeat' first | exact rfl | refine nat_i ?_ ?_ | refine nat_b ?_ ?_ | refine nat_o (fun _ => ?_) | refine nat_m ?_ (fun _ => ?_)
set_option maxRecDepth 100000 in
theorem act_time.run (civil_Right : (Mom) → Option (Bool)) (f0 : List Int) : run ⟨[(85, sp (o1 sM) (o1 sB) civil_Right)], []⟩ 0 Try.f46 ((o1 sL).enc f0) = act_time.t (fun b => some (.ret (packD ((o1 sB).enc b)))) civil_Right f0 := by kernel_rfl
noncomputable def act_time.F (a : List Int) : Option (Bool) := act_time.t some civil_Right.F a
theorem act_time.good : Good 46 (sp (o1 sL) (o1 sB) act_time.F) := good_tree _ _ _ (Ok.cons civil_Right.good Ok.nil) 0 (fn := Try.f46) (by kernel_rfl) (by kernel_rfl) (by kernel_rfl) fun a => (act_time.nat _ civil_Right.F a).trans (act_time.run civil_Right.F a).symm
noncomputable def act_decimal.t {γ : Type} (K : (Bool) → Option γ) (dec_Norm : (Int × Int) → Option (Int × Int)) (f0 : List Int) : Option γ :=
  if 0 < (↑f0.length : Int) then (if rd f0 0 ≤ -1000000000000000000 then K false
   else if 0 < (↑f0.length : Int) then (if rd f0 0 ≥ 1000000000000000000 then K false
     else if 1 < (↑f0.length : Int) then (if rd f0 1 < 0 then K false
       else if 1 < (↑f0.length : Int) then (if rd f0 1 > 18 then K false
         else if 0 < (↑f0.length : Int) then (if 1 < (↑f0.length : Int) then (dec_Norm (rd f0 0, rd f0 1)).bind fun t12 => if 0 < (↑f0.length : Int) then (if t12.fst = rd f0 0 then (if 1 < (↑f0.length : Int) then (if t12.snd = rd f0 1 then K true
                else K false)
               else none)
              else K false)
             else none
           else none)
          else none)
        else none)
      else none)
    else none)
  else none
set_option maxRecDepth 100000 in
theorem act_decimal.nat {γ : Type} (g : (Bool) → Option γ) (dec_Norm : (Int × Int) → Option (Int × Int)) (f0 : List Int) : (act_decimal.t some dec_Norm f0).bind g = act_decimal.t g dec_Norm f0 := by
  unfold act_decimal.t
  repeat' first | exact rfl | refine nat_i ?_ ?_ | refine nat_b ?_ ?_ | refine nat_o (fun _ => ?_) | refine nat_m ?_ (fun _ => ?_)
set_option maxRecDepth 100000 in
theorem act_decimal.run (dec_Norm : (Int × Int) → Option (Int × Int)) (f0 : List Int) : run ⟨[(86, sp (oc sI (o1 sI)) (oc sI (o1 sI)) dec_Norm)], []⟩ 0 Try.f47 ((o1 sL).enc f0) = act_decimal.t (fun b => some (.ret (packD ((o1 sB).enc b)))) dec_Norm f0 := by kernel_rfl
noncomputable def act_decimal.F (a : List Int) : Option (Bool) := act_decimal.t some dec_Norm.F a
theorem act_decimal.good : Good 47 (sp (o1 sL) (o1 sB) act_decimal.F) := good_tree _ _ _ (Ok.cons dec_Norm.good Ok.nil) 0 (fn := Try.f47) (by kernel_rfl) (by kernel_rfl) (by kernel_rfl) fun a => (act_decimal.nat _ dec_Norm.F a).trans (act_decimal.run dec_Norm.F a).symm
noncomputable def cmp_isNaN.t {γ : Type} (K : (Bool) → Option γ)  (n0 : Int) : Option γ :=
  if n0 = n0 then K false
  else K true
set_option maxRecDepth 100000 in
theorem cmp_isNaN.nat {γ : Type} (g : (Bool) → Option γ)  (n0 : Int) : (cmp_isNaN.t some n0).bind g = cmp_isNaN.t g n0 := by
  unfold cmp_isNaN.t
  repeat' first | exact rfl | refine nat_i ?_ ?_ | refine nat_b ?_ ?_ | refine nat_o (fun _ => ?_) | refine nat_m ?_ (fun _ => ?_)
set_option maxRecDepth 100000 in
theorem cmp_isNaN.run  (n0 : Int) : run ⟨[], []⟩ 0 Try.f109 ((o1 sI).enc n0) = cmp_isNaN.t (fun b => some (.ret (packD ((o1 sB).enc b)))) n0 := by kernel_rfl
noncomputable def cmp_isNaN.F (a : Int) : Option (Bool) := cmp_isNaN.t some a
theorem cmp_isNaN.good : Good 109 (sp (o1 sI) (o1 sB) cmp_isNaN.F) := good_tree _ _ _ Ok.nil 0 (fn := Try.f109) (by kernel_rfl) (by kernel_rfl) (by kernel_rfl) fun a => (cmp_isNaN.nat _ a).trans (cmp_isNaN.run a).symm
noncomputable def cmp_Compare.t {γ : Type} (K : (Int) → Option γ) (isNaN : (Int) → Option (Bool)) (n0 : Int) (n1 : Int) : Option γ :=
  (isNaN n0).bind fun t2 => bm (t2)
    ((isNaN n1).bind fun t4 => bm (t4)
      (K 0)
      (K (-1)))
    ((isNaN n1).bind fun t4 => bm (t4)
      (K 1)
      (if n0 < n1 then K (-1)
      else if n0 > n1 then K 1
       else K 0))
set_option maxRecDepth 100000 in
theorem cmp_Compare.nat {γ : Type} (g : (Int) → Option γ) (isNaN : (Int) → Option (Bool)) (n0 : Int) (n1 : Int) : (cmp_Compare.t some isNaN n0 n1).bind g = cmp_Compare.t g isNaN n0 n1 := by
  unfold cmp_Compare.t
  repeat' first | exact rfl | refine nat_i ?_ ?_ | refine nat_b ?_ ?_ | refine nat_o (fun _ => ?_) | refine nat_m ?_ (fun _ => ?_)
set_option maxRecDepth 100000 in
theorem cmp_Compare.run (isNaN : (Int) → Option (Bool)) (n0 : Int) (n1 : Int) : run ⟨[(109, sp (o1 sI) (o1 sB) isNaN)], []⟩ 0 Try.f87 ((oc sI (o1 sI)).enc (n0, n1)) = cmp_Compare.t (fun b => some (.ret (packD ((o1 sI).enc b)))) isNaN n0 n1 := by kernel_rfl
noncomputable def cmp_Compare.F (a : Int × Int) : Option (Int) := cmp_Compare.t some cmp_isNaN.F a.1 a.2
theorem cmp_Compare.good : Good 87 (sp (oc sI (o1 sI)) (o1 sI) cmp_Compare.F) := good_tree _ _ _ (Ok.cons cmp_isNaN.good Ok.nil) 0 (fn := Try.f87) (by kernel_rfl) (by kernel_rfl) (by kernel_rfl) fun a => (cmp_Compare.nat _ cmp_isNaN.F a.1 a.2).trans (cmp_Compare.run cmp_isNaN.F a.1 a.2).symm
noncomputable def slices_Compare.t {γ : Type} (K : (Int) → Option γ) (Compare : (Int × Int) → Option (Int)) (f0 : List Int) (f1 : List Int) : Option γ :=
  if 0 < (↑f0.length : Int) then (if 0 < (↑f0.length : Int) then (if 0 ≥ (↑f1.length : Int) then K 1
    else if 0 < (↑f1.length : Int) then (Compare (rd f0 0, rd f1 0)).bind fun t6 => if t6 = 0 then (if 1 < (↑f0.length : Int) then (if 1 < (↑f0.length : Int) then (if 1 ≥ (↑f1.length : Int) then K 1
          else if 1 < (↑f1.length : Int) then (Compare (rd f0 1, rd f1 1)).bind fun t12 => if t12 = 0 then (if 2 < (↑f0.length : Int) then (if 2 < (↑f0.length : Int) then (if 2 ≥ (↑f1.length : Int) then K 1
                else if 2 < (↑f1.length : Int) then (Compare (rd f0 2, rd f1 2)).bind fun t18 => if t18 = 0 then (if 3 < (↑f0.length : Int) then (if 3 < (↑f0.length : Int) then (if 3 ≥ (↑f1.length : Int) then K 1
                      else if 3 < (↑f1.length : Int) then (Compare (rd f0 3, rd f1 3)).bind fun t24 => if t24 = 0 then (if 4 < (↑f0.length : Int) then (if 4 < (↑f0.length : Int) then (if 4 ≥ (↑f1.length : Int) then K 1
                            else if 4 < (↑f1.length : Int) then (Compare (rd f0 4, rd f1 4)).bind fun t30 => if t30 = 0 then none
                               else K t30
                             else none)
                           else none)
                          else if (↑f0.length : Int) < (↑f1.length : Int) then K (-1)
                           else K 0)
                         else K t24
                       else none)
                     else none)
                    else if (↑f0.length : Int) < (↑f1.length : Int) then K (-1)
                     else K 0)
                   else K t18
                 else none)
               else none)
              else if (↑f0.length : Int) < (↑f1.length : Int) then K (-1)
               else K 0)
             else K t12
           else none)
         else none)
        else if (↑f0.length : Int) < (↑f1.length : Int) then K (-1)
         else K 0)
       else K t6
     else none)
   else none)
  else if (↑f0.length : Int) < (↑f1.length : Int) then K (-1)
   else K 0
set_option maxRecDepth 100000 in
theorem slices_Compare.nat {γ : Type} (g : (Int) → Option γ) (Compare : (Int × Int) → Option (Int)) (f0 : List Int) (f1 : List Int) : (slices_Compare.t some Compare f0 f1).bind g = slices_Compare.t g Compare f0 f1 := by
  unfold slices_Compare.t
  repeat' first | exact rfl | refine nat_i ?_ ?_ | refine nat_b ?_ ?_ | refine nat_o (fun _ => ?_) | refine nat_m ?_ (fun _ => ?_)
set_option maxRecDepth 100000 in
theorem slices_Compare.run (Compare : (Int × Int) → Option (Int)) (f0 : List Int) (f1 : List Int) : run ⟨[(87, sp (oc sI (o1 sI)) (o1 sI) Compare)], []⟩ 5 Try.f48 ((oc sL (o1 sL)).enc (f0, f1)) = slices_Compare.t (fun b => some (.ret (packD ((o1 sI).enc b)))) Compare f0 f1 := by kernel_rfl
noncomputable def slices_Compare.F (a : List Int × List Int) : Option (Int) := slices_Compare.t some cmp_Compare.F a.1 a.2
theorem slices_Compare.good : Good 48 (sp (oc sL (o1 sL)) (o1 sI) slices_Compare.F) := good_tree _ _ _ (Ok.cons cmp_Compare.good Ok.nil) 5 (fn := Try.f48) (by kernel_rfl) (by kernel_rfl) (by kernel_rfl) fun a => (slices_Compare.nat _ cmp_Compare.F a.1 a.2).trans (slices_Compare.run cmp_Compare.F a.1 a.2).symm
noncomputable def act_Right.t {γ : Type} (K : (Bool) → Option γ) (act_fields : (Int) → Option (Int)) (act_day : (List Int) → Option (Bool)) (act_time : (List Int) → Option (Bool)) (act_decimal : (List Int) → Option (Bool)) (Compare : (List Int × List Int) → Option (Int)) (v0 : S27) : Option γ :=
  (act_fields v0.f0).bind fun t2 => if (↑v0.f1.length : Int) = t2 then (if v0.f0 = 4 then (act_day v0.f1).bind fun t5 => bm (t5)
       (K true)
       (K false)
    else if v0.f0 = 5 then (act_time v0.f1).bind fun t6 => bm (t6)
        (K true)
        (K false)
     else if v0.f0 = 6 then (act_day v0.f1).bind fun t7 => bm (t7)
         (if 3 ≤ (↑v0.f1.length : Int) then (act_time (List.drop 3 v0.f1)).bind fun t10 => bm (t10)
            (K true)
            (K false)
         else none)
         (K false)
      else if v0.f0 = 7 then (act_decimal v0.f1).bind fun t8 => bm (t8)
          (K true)
          (K false)
       else if v0.f0 = 8 then (if 0 < (↑v0.f1.length : Int) then (if rd v0.f1 0 ≥ 0 then (if 0 < (↑v0.f1.length : Int) then (if rd v0.f1 0 ≤ 1000000000 then (if 1 < (↑v0.f1.length : Int) then (if rd v0.f1 1 > -1000000000000000000 then (if 1 < (↑v0.f1.length : Int) then (if rd v0.f1 1 < 1000000000000000000 then K true
                else K false)
               else none)
              else K false)
             else none)
            else K false)
           else none)
          else K false)
         else none)
        else if v0.f0 = 9 then (if 0 < (↑v0.f1.length : Int) then (if rd v0.f1 0 ≥ 0 then (if 0 < (↑v0.f1.length : Int) then (if rd v0.f1 0 ≤ 9007199254740991 then K true
             else K false)
            else none)
           else K false)
          else none)
         else (act_day v0.f1).bind fun t10 => bm (t10)
            (if 3 ≤ (↑v0.f1.length : Int) then (act_day (List.drop 3 v0.f1)).bind fun t13 => bm (t13)
               (if 3 ≤ (↑v0.f1.length : Int) then (if 3 ≤ (↑v0.f1.length : Int) then (Compare (List.take 3 v0.f1, List.drop 3 v0.f1)).bind fun t17 => if t17 ≤ 0 then K true
                  else K false
                else none)
               else none)
               (K false)
            else none)
            (K false))
   else K false
set_option maxRecDepth 100000 in
theorem act_Right.nat {γ : Type} (g : (Bool) → Option γ) (act_fields : (Int) → Option (Int)) (act_day : (List Int) → Option (Bool)) (act_time : (List Int) → Option (Bool)) (act_decimal : (List Int) → Option (Bool)) (Compare : (List Int × List Int) → Option (Int)) (v0 : S27) : (act_Right.t some act_fields act_day act_time act_decimal Compare v0).bind g = act_Right.t g act_fields act_day act_time act_decimal Compare v0 := by
  unfold act_Right.t
  repeat' first | exact rfl | refine nat_i ?_ ?_ | refine nat_b ?_ ?_ | refine nat_o (fun _ => ?_) | refine nat_m ?_ (fun _ => ?_)
set_option maxRecDepth 100000 in
theorem act_Right.run (act_fields : (Int) → Option (Int)) (act_day : (List Int) → Option (Bool)) (act_time : (List Int) → Option (Bool)) (act_decimal : (List Int) → Option (Bool)) (Compare : (List Int × List Int) → Option (Int)) (v0 : S27) : run ⟨[(44, sp (o1 sI) (o1 sI) act_fields), (45, sp (o1 sL) (o1 sB) act_day), (46, sp (o1 sL) (o1 sB) act_time), (47, sp (o1 sL) (o1 sB) act_decimal), (48, sp (oc sL (o1 sL)) (o1 sI) Compare)], []⟩ 0 Try.f25 ((o1 s1).enc v0) = act_Right.t (fun b => some (.ret (packD ((o1 sB).enc b)))) act_fields act_day act_time act_decimal Compare v0 := by kernel_rfl
noncomputable def act_Right.F (a : S27) : Option (Bool) := act_Right.t some act_fields.F act_day.F act_time.F act_decimal.F slices_Compare.F a
theorem act_Right.good : Good 25 (sp (o1 s1) (o1 sB) act_Right.F) := good_tree _ _ _ (Ok.cons act_fields.good (Ok.cons act_day.good (Ok.cons act_time.good (Ok.cons act_decimal.good (Ok.cons slices_Compare.good Ok.nil))))) 0 (fn := Try.f25) (by kernel_rfl) (by kernel_rfl) (by kernel_rfl) fun a => (act_Right.nat _ act_fields.F act_day.F act_time.F act_decimal.F slices_Compare.F a).trans (act_Right.run act_fields.F act_day.F act_time.F act_decimal.F slices_Compare.F a).symm
noncomputable def ref1_Day.t {γ : Type} (K : (Bool) → Option γ) (ref1_Length : (Int × Int) → Option (Int)) (n0 : Int) (n1 : Int) (n2 : Int) : Option γ :=
  if n0 ≥ 1 then (if n0 ≤ 9999 then (if n1 ≥ 1 then (if n1 ≤ 12 then (if n2 ≥ 1 then (ref1_Length (n0, n1)).bind fun t7 => if n2 ≤ t7 then K true
        else K false
      else K false)
     else K false)
    else K false)
   else K false)
  else K false
set_option maxRecDepth 100000 in
theorem ref1_Day.nat {γ : Type} (g : (Bool) → Option γ) (ref1_Length : (Int × Int) → Option (Int)) (n0 : Int) (n1 : Int) (n2 : Int) : (ref1_Day.t some ref1_Length n0 n1 n2).bind g = ref1_Day.t g ref1_Length n0 n1 n2 := by
  unfold ref1_Day.t
  repeat' first | exact rfl | refine nat_i ?_ ?_ | refine nat_b ?_ ?_ | refine nat_o (fun _ => ?_) | refine nat_m ?_ (fun _ => ?_)
set_option maxRecDepth 100000 in
theorem ref1_Day.run (ref1_Length : (Int × Int) → Option (Int)) (n0 : Int) (n1 : Int) (n2 : Int) : run ⟨[(54, sp (oc sI (o1 sI)) (o1 sI) ref1_Length)], []⟩ 0 Try.f35 ((oc sI (oc sI (o1 sI))).enc (n0, n1, n2)) = ref1_Day.t (fun b => some (.ret (packD ((o1 sB).enc b)))) ref1_Length n0 n1 n2 := by kernel_rfl
noncomputable def ref1_Day.F (a : Int × Int × Int) : Option (Bool) := ref1_Day.t some interlocutorref1_Length.F a.1 a.2.1 a.2.2
theorem ref1_Day.good : Good 35 (sp (oc sI (oc sI (o1 sI))) (o1 sB) ref1_Day.F) := good_tree _ _ _ (Ok.cons interlocutorref1_Length.good Ok.nil) 0 (fn := Try.f35) (by kernel_rfl) (by kernel_rfl) (by kernel_rfl) fun a => (ref1_Day.nat _ interlocutorref1_Length.F a.1 a.2.1 a.2.2).trans (ref1_Day.run interlocutorref1_Length.F a.1 a.2.1 a.2.2).symm
noncomputable def ref2_Scaled.t {γ : Type} (K : (Int × Bool) → Option γ) (ref2_Norm : (Int × Int) → Option (Int × Int)) (ref2_Ten : (Int) → Option (Int)) (n0 : Int) (n1 : Int) (n2 : Int) : Option γ :=
  (ref2_Norm (n0, n1)).bind fun t2 => if t2.snd > n2 then K ((0, false))
   else (ref2_Ten (wrap64 (n2 - t2.snd))).bind fun t4 => if t2.fst < wrap64 (0 - t2.fst) then (if t4 = 0 then none
      else if wrap64 (0 - t2.fst) > wrap64 (Int.tdiv 999999999999999999 t4) then K ((0, false))
       else K ((wrap64 (t2.fst * t4), true)))
     else if t4 = 0 then none
      else if t2.fst > wrap64 (Int.tdiv 999999999999999999 t4) then K ((0, false))
       else K ((wrap64 (t2.fst * t4), true))
set_option maxRecDepth 100000 in
theorem ref2_Scaled.nat {γ : Type} (g : (Int × Bool) → Option γ) (ref2_Norm : (Int × Int) → Option (Int × Int)) (ref2_Ten : (Int) → Option (Int)) (n0 : Int) (n1 : Int) (n2 : Int) : (ref2_Scaled.t some ref2_Norm ref2_Ten n0 n1 n2).bind g = ref2_Scaled.t g ref2_Norm ref2_Ten n0 n1 n2 := by
  unfold ref2_Scaled.t
  repeat' first | exact rfl | refine nat_i ?_ ?_ | refine nat_b ?_ ?_ | refine nat_o (fun _ => ?_) | refine nat_m ?_ (fun _ => ?_)
set_option maxRecDepth 100000 in
theorem ref2_Scaled.run (ref2_Norm : (Int × Int) → Option (Int × Int)) (ref2_Ten : (Int) → Option (Int)) (n0 : Int) (n1 : Int) (n2 : Int) : run ⟨[(89, sp (oc sI (o1 sI)) (oc sI (o1 sI)) ref2_Norm), (116, sp (o1 sI) (o1 sI) ref2_Ten)], []⟩ 0 Try.f117 ((oc sI (oc sI (o1 sI))).enc (n0, n1, n2)) = ref2_Scaled.t (fun b => some (.ret (packD ((oc sI (o1 sB)).enc b)))) ref2_Norm ref2_Ten n0 n1 n2 := by kernel_rfl
noncomputable def ref2_Scaled.F (a : Int × Int × Int) : Option (Int × Bool) := ref2_Scaled.t some interlocutorref2_Norm.F interlocutorref2_Ten.F a.1 a.2.1 a.2.2
theorem ref2_Scaled.good : Good 117 (sp (oc sI (oc sI (o1 sI))) (oc sI (o1 sB)) ref2_Scaled.F) := good_tree _ _ _ (Ok.cons interlocutorref2_Norm.good (Ok.cons interlocutorref2_Ten.good Ok.nil)) 0 (fn := Try.f117) (by kernel_rfl) (by kernel_rfl) (by kernel_rfl) fun a => (ref2_Scaled.nat _ interlocutorref2_Norm.F interlocutorref2_Ten.F a.1 a.2.1 a.2.2).trans (ref2_Scaled.run interlocutorref2_Norm.F interlocutorref2_Ten.F a.1 a.2.1 a.2.2).symm
noncomputable def ref8_fields.t {γ : Type} (K : (Int) → Option γ)  (n0 : Int) : Option γ :=
  if n0 = 4 then K 3
  else if n0 = 5 then K 3
   else if n0 = 6 then K 6
    else if n0 = 10 then K 6
     else if n0 = 7 then K 2
      else if n0 = 8 then K 2
       else K 1
set_option maxRecDepth 100000 in
theorem ref8_fields.nat {γ : Type} (g : (Int) → Option γ)  (n0 : Int) : (ref8_fields.t some n0).bind g = ref8_fields.t g n0 := by
  unfold ref8_fields.t
  repeat' first | exact rfl | refine nat_i ?_ ?_ | refine nat_b ?_ ?_ | refine nat_o (fun _ => ?_) | refine nat_m ?_ (fun _ => ?_)
set_option maxRecDepth 100000 in
theorem ref8_fields.run  (n0 : Int) : run ⟨[], []⟩ 0 Try.f50 ((o1 sI).enc n0) = ref8_fields.t (fun b => some (.ret (packD ((o1 sI).enc b)))) n0 := by kernel_rfl
noncomputable def ref8_fields.F (a : Int) : Option (Int) := ref8_fields.t some a
theorem ref8_fields.good : Good 50 (sp (o1 sI) (o1 sI) ref8_fields.F) := good_tree _ _ _ Ok.nil 0 (fn := Try.f50) (by kernel_rfl) (by kernel_rfl) (by kernel_rfl) fun a => (ref8_fields.nat _ a).trans (ref8_fields.run a).symm
noncomputable def ref8_Right.t {γ : Type} (K : (Bool) → Option γ) (ref8_fields : (Int) → Option (Int)) (ref1_Day : (Int × Int × Int) → Option (Bool)) (ref1_Clock : (Int × Int × Int) → Option (Bool)) (ref1_Days : (Int × Int × Int) → Option (Int)) (ref2_Right : (Int × Int) → Option (Bool)) (v0 : S27) : Option γ :=
  if v0.f0 < 4 then K false
  else if v0.f0 > 10 then K false
   else (ref8_fields v0.f0).bind fun t4 => if (↑v0.f1.length : Int) = t4 then (if v0.f0 = 4 then (if 0 < (↑v0.f1.length : Int) then (if 1 < (↑v0.f1.length : Int) then (if 2 < (↑v0.f1.length : Int) then (ref1_Day (rd v0.f1 0, rd v0.f1 1, rd v0.f1 2)).bind fun t10 => bm (t10)
            (K true)
            (K false)
         else none)
        else none)
       else none)
      else if v0.f0 = 5 then (if 0 < (↑v0.f1.length : Int) then (if 1 < (↑v0.f1.length : Int) then (if 2 < (↑v0.f1.length : Int) then (ref1_Clock (rd v0.f1 0, rd v0.f1 1, rd v0.f1 2)).bind fun t11 => bm (t11)
             (K true)
             (K false)
          else none)
         else none)
        else none)
       else if v0.f0 = 6 then (if 0 < (↑v0.f1.length : Int) then (if 1 < (↑v0.f1.length : Int) then (if 2 < (↑v0.f1.length : Int) then (ref1_Day (rd v0.f1 0, rd v0.f1 1, rd v0.f1 2)).bind fun t12 => bm (t12)
              (if 3 < (↑v0.f1.length : Int) then (if 4 < (↑v0.f1.length : Int) then (if 5 < (↑v0.f1.length : Int) then (ref1_Clock (rd v0.f1 3, rd v0.f1 4, rd v0.f1 5)).bind fun t17 => bm (t17)
                   (K true)
                   (K false)
                else none)
               else none)
              else none)
              (K false)
           else none)
          else none)
         else none)
        else if v0.f0 = 7 then (if 0 < (↑v0.f1.length : Int) then (if 1 < (↑v0.f1.length : Int) then (ref2_Right (rd v0.f1 0, rd v0.f1 1)).bind fun t12 => bm (t12)
              (K true)
              (K false)
           else none)
          else none)
         else if v0.f0 = 8 then (if 0 < (↑v0.f1.length : Int) then (if rd v0.f1 0 ≥ 0 then (if 0 < (↑v0.f1.length : Int) then (if rd v0.f1 0 ≤ 1000000000 then (if 1 < (↑v0.f1.length : Int) then (if rd v0.f1 1 > -1000000000000000000 then (if 1 < (↑v0.f1.length : Int) then (if rd v0.f1 1 < 1000000000000000000 then K true
                  else K false)
                 else none)
                else K false)
               else none)
              else K false)
             else none)
            else K false)
           else none)
          else if v0.f0 = 9 then (if 0 < (↑v0.f1.length : Int) then (if rd v0.f1 0 ≥ 0 then (if 0 < (↑v0.f1.length : Int) then (if rd v0.f1 0 ≤ 9007199254740991 then K true
               else K false)
              else none)
             else K false)
            else none)
           else if 0 < (↑v0.f1.length : Int) then (if 1 < (↑v0.f1.length : Int) then (if 2 < (↑v0.f1.length : Int) then (ref1_Day (rd v0.f1 0, rd v0.f1 1, rd v0.f1 2)).bind fun t15 => bm (t15)
                 (if 3 < (↑v0.f1.length : Int) then (if 4 < (↑v0.f1.length : Int) then (if 5 < (↑v0.f1.length : Int) then (ref1_Day (rd v0.f1 3, rd v0.f1 4, rd v0.f1 5)).bind fun t20 => bm (t20)
                      (if 0 < (↑v0.f1.length : Int) then (if 1 < (↑v0.f1.length : Int) then (if 2 < (↑v0.f1.length : Int) then (if 3 < (↑v0.f1.length : Int) then (if 4 < (↑v0.f1.length : Int) then (if 5 < (↑v0.f1.length : Int) then (ref1_Days (rd v0.f1 0, rd v0.f1 1, rd v0.f1 2)).bind fun t28 => (ref1_Days (rd v0.f1 3, rd v0.f1 4, rd v0.f1 5)).bind fun t29 => if t28 ≤ t29 then K true
                              else K false
                           else none)
                          else none)
                         else none)
                        else none)
                       else none)
                      else none)
                      (K false)
                   else none)
                  else none)
                 else none)
                 (K false)
              else none)
             else none)
            else none)
     else K false
set_option maxRecDepth 100000 in
theorem ref8_Right.nat {γ : Type} (g : (Bool) → Option γ) (ref8_fields : (Int) → Option (Int)) (ref1_Day : (Int × Int × Int) → Option (Bool)) (ref1_Clock : (Int × Int × Int) → Option (Bool)) (ref1_Days : (Int × Int × Int) → Option (Int)) (ref2_Right : (Int × Int) → Option (Bool)) (v0 : S27) : (ref8_Right.t some ref8_fields ref1_Day ref1_Clock ref1_Days ref2_Right v0).bind g = ref8_Right.t g ref8_fields ref1_Day ref1_Clock ref1_Days ref2_Right v0 := by
  unfold ref8_Right.t
  repeat' first | exact rfl | refine nat_i ?_ ?_ | refine nat_b ?_ ?_ | refine nat_o (fun _ => ?_) | refine nat_m ?_ (fun _ => ?_)
set_option maxRecDepth 100000 in
theorem ref8_Right.run (ref8_fields : (Int) → Option (Int)) (ref1_Day : (Int × Int × Int) → Option (Bool)) (ref1_Clock : (Int × Int × Int) → Option (Bool)) (ref1_Days : (Int × Int × Int) → Option (Int)) (ref2_Right : (Int × Int) → Option (Bool)) (v0 : S27) : run ⟨[(50, sp (o1 sI) (o1 sI) ref8_fields), (35, sp (oc sI (oc sI (o1 sI))) (o1 sB) ref1_Day), (51, sp (oc sI (oc sI (o1 sI))) (o1 sB) ref1_Clock), (31, sp (oc sI (oc sI (o1 sI))) (o1 sI) ref1_Days), (52, sp (oc sI (o1 sI)) (o1 sB) ref2_Right)], []⟩ 0 Try.f29 ((o1 s1).enc v0) = ref8_Right.t (fun b => some (.ret (packD ((o1 sB).enc b)))) ref8_fields ref1_Day ref1_Clock ref1_Days ref2_Right v0 := by kernel_rfl
noncomputable def ref8_Right.F (a : S27) : Option (Bool) := ref8_Right.t some ref8_fields.F ref1_Day.F interlocutorref1_Clock.F interlocutorref1_Days.F interlocutorref2_Right.F a
theorem ref8_Right.good : Good 29 (sp (o1 s1) (o1 sB) ref8_Right.F) := good_tree _ _ _ (Ok.cons ref8_fields.good (Ok.cons ref1_Day.good (Ok.cons interlocutorref1_Clock.good (Ok.cons interlocutorref1_Days.good (Ok.cons interlocutorref2_Right.good Ok.nil))))) 0 (fn := Try.f29) (by kernel_rfl) (by kernel_rfl) (by kernel_rfl) fun a => (ref8_Right.nat _ ref8_fields.F ref1_Day.F interlocutorref1_Clock.F interlocutorref1_Days.F interlocutorref2_Right.F a).trans (ref8_Right.run ref8_fields.F ref1_Day.F interlocutorref1_Clock.F interlocutorref1_Days.F interlocutorref2_Right.F a).symm
noncomputable def ref8_word.t {γ : Type} (K : (Int × Bool) → Option γ)  (v0 : S27) : Option γ :=
  if v0.f0 = 2 then (if (↑v0.f1.length : Int) = 1 then (if 0 < (↑v0.f1.length : Int) then K ((rd v0.f1 0, true))
    else none)
   else K ((0, false)))
  else K ((0, false))
set_option maxRecDepth 100000 in
theorem ref8_word.nat {γ : Type} (g : (Int × Bool) → Option γ)  (v0 : S27) : (ref8_word.t some v0).bind g = ref8_word.t g v0 := by
  unfold ref8_word.t
  repeat' first | exact rfl | refine nat_i ?_ ?_ | refine nat_b ?_ ?_ | refine nat_o (fun _ => ?_) | refine nat_m ?_ (fun _ => ?_)
set_option maxRecDepth 100000 in
theorem ref8_word.run  (v0 : S27) : run ⟨[], []⟩ 0 Try.f103 ((o1 s1).enc v0) = ref8_word.t (fun b => some (.ret (packD ((oc sI (o1 sB)).enc b)))) v0 := by kernel_rfl
noncomputable def ref8_word.F (a : S27) : Option (Int × Bool) := ref8_word.t some a
theorem ref8_word.good : Good 103 (sp (o1 s1) (oc sI (o1 sB)) ref8_word.F) := good_tree _ _ _ Ok.nil 0 (fn := Try.f103) (by kernel_rfl) (by kernel_rfl) (by kernel_rfl) fun a => (ref8_word.nat _ a).trans (ref8_word.run a).symm
noncomputable def ref8_paid.t {γ : Type} (K : (S27 × Bool) → Option γ) (ref8_word : (S27) → Option (Int × Bool)) (ref8_Right : (S27) → Option (Bool)) (ref2_Scaled : (Int × Int × Int) → Option (Int × Bool)) (l0 : List S27) : Option γ :=
  if 0 < (↑l0.length : Int) then (ref8_word { f0 := (rd_T27 l0 0).f0, f1 := (rd_T27 l0 0).f1 }).bind fun t3 => bm (t3.snd)
     (if t3.fst < 0 then K ((⟨0, []⟩, false))
     else if 1 < (↑l0.length : Int) then (if (rd_T27 l0 1).f0 = 7 then (if 1 < (↑l0.length : Int) then (ref8_Right { f0 := (rd_T27 l0 1).f0, f1 := (rd_T27 l0 1).f1 }).bind fun t9 => bm (t9)
           (if 1 < (↑l0.length : Int) then (if 0 < (↑(rd_T27 l0 1).f1.length : Int) then (if 1 < (↑l0.length : Int) then (if 1 < (↑(rd_T27 l0 1).f1.length : Int) then (ref2_Scaled (rd (rd_T27 l0 1).f1 0, rd (rd_T27 l0 1).f1 1, t3.fst.tmod 10)).bind fun t15 => bm (t15.snd)
                 (K ((⟨8, [t3.fst, t15.fst]⟩, true)))
                 (K ((⟨8, [t3.fst, t15.fst]⟩, false)))
              else none)
             else none)
            else none)
           else none)
           (K ((⟨0, []⟩, false)))
        else none)
       else K ((⟨0, []⟩, false)))
      else none)
     (K ((⟨0, []⟩, false)))
  else none
set_option maxRecDepth 100000 in
theorem ref8_paid.nat {γ : Type} (g : (S27 × Bool) → Option γ) (ref8_word : (S27) → Option (Int × Bool)) (ref8_Right : (S27) → Option (Bool)) (ref2_Scaled : (Int × Int × Int) → Option (Int × Bool)) (l0 : List S27) : (ref8_paid.t some ref8_word ref8_Right ref2_Scaled l0).bind g = ref8_paid.t g ref8_word ref8_Right ref2_Scaled l0 := by
  unfold ref8_paid.t
  repeat' first | exact rfl | refine nat_i ?_ ?_ | refine nat_b ?_ ?_ | refine nat_o (fun _ => ?_) | refine nat_m ?_ (fun _ => ?_)
set_option maxRecDepth 100000 in
theorem ref8_paid.run (ref8_word : (S27) → Option (Int × Bool)) (ref8_Right : (S27) → Option (Bool)) (ref2_Scaled : (Int × Int × Int) → Option (Int × Bool)) (l0 : List S27) : run ⟨[(103, sp (o1 s1) (oc sI (o1 sB)) ref8_word), (29, sp (o1 s1) (o1 sB) ref8_Right), (117, sp (oc sI (oc sI (o1 sI))) (oc sI (o1 sB)) ref2_Scaled)], []⟩ 0 Try.f106 ((o1 sV).enc l0) = ref8_paid.t (fun b => some (.ret (packD ((oc s1 (o1 sB)).enc b)))) ref8_word ref8_Right ref2_Scaled l0 := by kernel_rfl
noncomputable def ref8_paid.F (a : List S27) : Option (S27 × Bool) := ref8_paid.t some ref8_word.F ref8_Right.F ref2_Scaled.F a
theorem ref8_paid.good : Good 106 (sp (o1 sV) (oc s1 (o1 sB)) ref8_paid.F) := good_tree _ _ _ (Ok.cons ref8_word.good (Ok.cons ref8_Right.good (Ok.cons ref2_Scaled.good Ok.nil))) 0 (fn := Try.f106) (by kernel_rfl) (by kernel_rfl) (by kernel_rfl) fun a => (ref8_paid.nat _ ref8_word.F ref8_Right.F ref2_Scaled.F a).trans (ref8_paid.run ref8_word.F ref8_Right.F ref2_Scaled.F a).symm
noncomputable def ref8_more.t {γ : Type} (K : (S27 × Bool) → Option γ) (ref8_paid : (List S27) → Option (S27 × Bool)) (n0 : Int) (l1 : List S27) : Option γ :=
  if n0 = 11 then (if 0 < (↑l1.length : Int) then (if (rd_T27 l1 0).f0 = 7 then (if 0 < (↑l1.length : Int) then (if (↑(rd_T27 l1 0).f1.length : Int) = 2 then (if 0 < (↑l1.length : Int) then (if 0 < (↑(rd_T27 l1 0).f1.length : Int) then (if 0 < (↑l1.length : Int) then (if 1 < (↑(rd_T27 l1 0).f1.length : Int) then K ((⟨7, [wrap64 (0 - rd (rd_T27 l1 0).f1 0), rd (rd_T27 l1 0).f1 1]⟩, true))
          else none)
         else none)
        else none)
       else none)
      else K ((⟨0, []⟩, false)))
     else none)
    else K ((⟨0, []⟩, false)))
   else none)
  else if n0 = 12 then (ref8_paid l1).bind fun t4 => bm (t4.snd)
      (K ((⟨t4.fst.f0, t4.fst.f1⟩, true)))
      (K ((⟨t4.fst.f0, t4.fst.f1⟩, false)))
   else if n0 = 13 then none
    else if n0 = 14 then none
     else if n0 = 15 then none
      else K ((⟨0, []⟩, false))
set_option maxRecDepth 100000 in
theorem ref8_more.nat {γ : Type} (g : (S27 × Bool) → Option γ) (ref8_paid : (List S27) → Option (S27 × Bool)) (n0 : Int) (l1 : List S27) : (ref8_more.t some ref8_paid n0 l1).bind g = ref8_more.t g ref8_paid n0 l1 := by
  unfold ref8_more.t
  repeat' first | exact rfl | refine nat_i ?_ ?_ | refine nat_b ?_ ?_ | refine nat_o (fun _ => ?_) | refine nat_m ?_ (fun _ => ?_)
set_option maxRecDepth 100000 in
theorem ref8_more.run (ref8_paid : (List S27) → Option (S27 × Bool)) (n0 : Int) (l1 : List S27) : run ⟨[(106, sp (o1 sV) (oc s1 (o1 sB)) ref8_paid)], []⟩ 0 Try.f84 ((oc sI (o1 sV)).enc (n0, l1)) = ref8_more.t (fun b => some (.ret (packD ((oc s1 (o1 sB)).enc b)))) ref8_paid n0 l1 := by kernel_rfl
noncomputable def ref8_more.F (a : Int × List S27) : Option (S27 × Bool) := ref8_more.t some ref8_paid.F a.1 a.2
theorem ref8_more.good : Good 84 (sp (oc sI (o1 sV)) (oc s1 (o1 sB)) ref8_more.F) := good_tree _ _ _ (Ok.cons ref8_paid.good Ok.nil) 0 (fn := Try.f84) (by kernel_rfl) (by kernel_rfl) (by kernel_rfl) fun a => (ref8_more.nat _ ref8_paid.F a.1 a.2).trans (ref8_more.run ref8_paid.F a.1 a.2).symm
noncomputable def ref8_made.t {γ : Type} (K : (S27 × Bool) → Option γ) (ref8_more : (Int × List S27) → Option (S27 × Bool)) (n0 : Int) (l1 : List S27) (yy2 mo2 dd2 hh2 mi2 ss2 : Int) : Option γ :=
  if n0 = 1 then none
  else if n0 = 2 then none
   else if n0 = 3 then none
    else if n0 = 4 then none
     else if n0 = 5 then none
      else if n0 = 6 then none
       else if n0 = 7 then none
        else if n0 = 8 then (if 0 < (↑l1.length : Int) then none
          else none)
         else if n0 = 9 then none
          else if n0 = 10 then none
           else (ref8_more (n0, l1)).bind fun t12 => bm (t12.snd)
              (K ((⟨t12.fst.f0, t12.fst.f1⟩, true)))
              (K ((⟨t12.fst.f0, t12.fst.f1⟩, false)))
set_option maxRecDepth 100000 in
theorem ref8_made.nat {γ : Type} (g : (S27 × Bool) → Option γ) (ref8_more : (Int × List S27) → Option (S27 × Bool)) (n0 : Int) (l1 : List S27) (yy2 mo2 dd2 hh2 mi2 ss2 : Int) : (ref8_made.t some ref8_more n0 l1 yy2 mo2 dd2 hh2 mi2 ss2).bind g = ref8_made.t g ref8_more n0 l1 yy2 mo2 dd2 hh2 mi2 ss2 := by
  unfold ref8_made.t
  repeat' first | exact rfl | refine nat_i ?_ ?_ | refine nat_b ?_ ?_ | refine nat_o (fun _ => ?_) | refine nat_m ?_ (fun _ => ?_)
set_option maxRecDepth 100000 in
theorem ref8_made.run (ref8_more : (Int × List S27) → Option (S27 × Bool)) (n0 : Int) (l1 : List S27) (yy2 mo2 dd2 hh2 mi2 ss2 : Int) : run ⟨[(84, sp (oc sI (o1 sV)) (oc s1 (o1 sB)) ref8_more)], []⟩ 0 Try.f42 ((oc sI (oc sV (o1 sM))).enc (n0, l1, (yy2, mo2, dd2, hh2, mi2, ss2))) = ref8_made.t (fun b => some (.ret (packD ((oc s1 (o1 sB)).enc b)))) ref8_more n0 l1 yy2 mo2 dd2 hh2 mi2 ss2 := by kernel_rfl
noncomputable def ref8_made.F (a : Int × List S27 × Mom) : Option (S27 × Bool) := ref8_made.t some ref8_more.F a.1 a.2.1 a.2.2.1 a.2.2.2.1 a.2.2.2.2.1 a.2.2.2.2.2.1 a.2.2.2.2.2.2.1 a.2.2.2.2.2.2.2
theorem ref8_made.good : Good 42 (sp (oc sI (oc sV (o1 sM))) (oc s1 (o1 sB)) ref8_made.F) := good_tree _ _ _ (Ok.cons ref8_more.good Ok.nil) 0 (fn := Try.f42) (by kernel_rfl) (by kernel_rfl) (by kernel_rfl) fun a => (ref8_made.nat _ ref8_more.F a.1 a.2.1 a.2.2.1 a.2.2.2.1 a.2.2.2.2.1 a.2.2.2.2.2.1 a.2.2.2.2.2.2.1 a.2.2.2.2.2.2.2).trans (ref8_made.run ref8_more.F a.1 a.2.1 a.2.2.1 a.2.2.2.1 a.2.2.2.2.1 a.2.2.2.2.2.1 a.2.2.2.2.2.2.1 a.2.2.2.2.2.2.2).symm
noncomputable def ref8_Do.t {γ : Type} (K : (S27 × Bool) → Option γ) (ref8_made : (Int × List S27 × Mom) → Option (S27 × Bool)) (ref8_Right : (S27) → Option (Bool)) (v0 : S27) (l1 : List S27) (yy2 mo2 dd2 hh2 mi2 ss2 : Int) : Option γ :=
  if 0 < (↑v0.f1.length : Int) then (if 0 < (↑v0.f1.length : Int) then (if 0 ≤ rd v0.f1 0 then (if rd v0.f1 0 < (↑l1.length : Int) then (if 1 < (↑v0.f1.length : Int) then (if 1 < (↑v0.f1.length : Int) then (if 0 ≤ rd v0.f1 1 then (if rd v0.f1 1 < (↑l1.length : Int) then (if 2 < (↑v0.f1.length : Int) then (if 2 < (↑v0.f1.length : Int) then (if 0 ≤ rd v0.f1 2 then (if rd v0.f1 2 < (↑l1.length : Int) then (if 3 < (↑v0.f1.length : Int) then (if 3 < (↑v0.f1.length : Int) then (if 0 ≤ rd v0.f1 3 then (if rd v0.f1 3 < (↑l1.length : Int) then none
                 else none)
                else none)
               else none)
              else if v0.f0 = 0 then (if 0 + (rd_T27 ([] ++ [{ f0 := (rd_T27 l1 (rd v0.f1 0)).f0, f1 := (rd_T27 l1 (rd v0.f1 0)).f1 }] ++ [{ f0 := (rd_T27 l1 (rd v0.f1 1)).f0, f1 := (rd_T27 l1 (rd v0.f1 1)).f1 }] ++ [{ f0 := (rd_T27 l1 (rd v0.f1 2)).f0, f1 := (rd_T27 l1 (rd v0.f1 2)).f1 }]) 0).f1.length ≤ 1000000 then K ((⟨(rd_T27 ([] ++ [{ f0 := (rd_T27 l1 (rd v0.f1 0)).f0, f1 := (rd_T27 l1 (rd v0.f1 0)).f1 }] ++ [{ f0 := (rd_T27 l1 (rd v0.f1 1)).f0, f1 := (rd_T27 l1 (rd v0.f1 1)).f1 }] ++ [{ f0 := (rd_T27 l1 (rd v0.f1 2)).f0, f1 := (rd_T27 l1 (rd v0.f1 2)).f1 }]) 0).f0, [] ++ (rd_T27 ([] ++ [{ f0 := (rd_T27 l1 (rd v0.f1 0)).f0, f1 := (rd_T27 l1 (rd v0.f1 0)).f1 }] ++ [{ f0 := (rd_T27 l1 (rd v0.f1 1)).f0, f1 := (rd_T27 l1 (rd v0.f1 1)).f1 }] ++ [{ f0 := (rd_T27 l1 (rd v0.f1 2)).f0, f1 := (rd_T27 l1 (rd v0.f1 2)).f1 }]) 0).f1⟩, true))
                else none)
               else (ref8_made (v0.f0, [] ++ [{ f0 := (rd_T27 l1 (rd v0.f1 0)).f0, f1 := (rd_T27 l1 (rd v0.f1 0)).f1 }] ++ [{ f0 := (rd_T27 l1 (rd v0.f1 1)).f0, f1 := (rd_T27 l1 (rd v0.f1 1)).f1 }] ++ [{ f0 := (rd_T27 l1 (rd v0.f1 2)).f0, f1 := (rd_T27 l1 (rd v0.f1 2)).f1 }], yy2, mo2, dd2, hh2, mi2, ss2)).bind fun t16 => bm (t16.snd)
                  ((ref8_Right { f0 := t16.fst.f0, f1 := t16.fst.f1 }).bind fun t18 => bm (t18)
                    (K ((⟨t16.fst.f0, t16.fst.f1⟩, true)))
                    (K ((⟨0, []⟩, false))))
                  (K ((⟨0, []⟩, false))))
             else none)
            else none)
           else none)
          else if v0.f0 = 0 then (if 0 + (rd_T27 ([] ++ [{ f0 := (rd_T27 l1 (rd v0.f1 0)).f0, f1 := (rd_T27 l1 (rd v0.f1 0)).f1 }] ++ [{ f0 := (rd_T27 l1 (rd v0.f1 1)).f0, f1 := (rd_T27 l1 (rd v0.f1 1)).f1 }]) 0).f1.length ≤ 1000000 then K ((⟨(rd_T27 ([] ++ [{ f0 := (rd_T27 l1 (rd v0.f1 0)).f0, f1 := (rd_T27 l1 (rd v0.f1 0)).f1 }] ++ [{ f0 := (rd_T27 l1 (rd v0.f1 1)).f0, f1 := (rd_T27 l1 (rd v0.f1 1)).f1 }]) 0).f0, [] ++ (rd_T27 ([] ++ [{ f0 := (rd_T27 l1 (rd v0.f1 0)).f0, f1 := (rd_T27 l1 (rd v0.f1 0)).f1 }] ++ [{ f0 := (rd_T27 l1 (rd v0.f1 1)).f0, f1 := (rd_T27 l1 (rd v0.f1 1)).f1 }]) 0).f1⟩, true))
            else none)
           else (ref8_made (v0.f0, [] ++ [{ f0 := (rd_T27 l1 (rd v0.f1 0)).f0, f1 := (rd_T27 l1 (rd v0.f1 0)).f1 }] ++ [{ f0 := (rd_T27 l1 (rd v0.f1 1)).f0, f1 := (rd_T27 l1 (rd v0.f1 1)).f1 }], yy2, mo2, dd2, hh2, mi2, ss2)).bind fun t12 => bm (t12.snd)
              ((ref8_Right { f0 := t12.fst.f0, f1 := t12.fst.f1 }).bind fun t14 => bm (t14)
                (K ((⟨t12.fst.f0, t12.fst.f1⟩, true)))
                (K ((⟨0, []⟩, false))))
              (K ((⟨0, []⟩, false))))
         else none)
        else none)
       else none)
      else if v0.f0 = 0 then (if 0 + (rd_T27 ([] ++ [{ f0 := (rd_T27 l1 (rd v0.f1 0)).f0, f1 := (rd_T27 l1 (rd v0.f1 0)).f1 }]) 0).f1.length ≤ 1000000 then K ((⟨(rd_T27 ([] ++ [{ f0 := (rd_T27 l1 (rd v0.f1 0)).f0, f1 := (rd_T27 l1 (rd v0.f1 0)).f1 }]) 0).f0, [] ++ (rd_T27 ([] ++ [{ f0 := (rd_T27 l1 (rd v0.f1 0)).f0, f1 := (rd_T27 l1 (rd v0.f1 0)).f1 }]) 0).f1⟩, true))
        else none)
       else (ref8_made (v0.f0, [] ++ [{ f0 := (rd_T27 l1 (rd v0.f1 0)).f0, f1 := (rd_T27 l1 (rd v0.f1 0)).f1 }], yy2, mo2, dd2, hh2, mi2, ss2)).bind fun t8 => bm (t8.snd)
          ((ref8_Right { f0 := t8.fst.f0, f1 := t8.fst.f1 }).bind fun t10 => bm (t10)
            (K ((⟨t8.fst.f0, t8.fst.f1⟩, true)))
            (K ((⟨0, []⟩, false))))
          (K ((⟨0, []⟩, false))))
     else none)
    else none)
   else none)
  else if v0.f0 = 0 then none
   else none
set_option maxRecDepth 100000 in
theorem ref8_Do.nat {γ : Type} (g : (S27 × Bool) → Option γ) (ref8_made : (Int × List S27 × Mom) → Option (S27 × Bool)) (ref8_Right : (S27) → Option (Bool)) (v0 : S27) (l1 : List S27) (yy2 mo2 dd2 hh2 mi2 ss2 : Int) : (ref8_Do.t some ref8_made ref8_Right v0 l1 yy2 mo2 dd2 hh2 mi2 ss2).bind g = ref8_Do.t g ref8_made ref8_Right v0 l1 yy2 mo2 dd2 hh2 mi2 ss2 := by
  unfold ref8_Do.t
  repeat' first | exact rfl | refine nat_i ?_ ?_ | refine nat_b ?_ ?_ | refine nat_o (fun _ => ?_) | refine nat_m ?_ (fun _ => ?_)
set_option maxRecDepth 100000 in
theorem ref8_Do.run (ref8_made : (Int × List S27 × Mom) → Option (S27 × Bool)) (ref8_Right : (S27) → Option (Bool)) (v0 : S27) (l1 : List S27) (yy2 mo2 dd2 hh2 mi2 ss2 : Int) : run ⟨[(42, sp (oc sI (oc sV (o1 sM))) (oc s1 (o1 sB)) ref8_made), (29, sp (o1 s1) (o1 sB) ref8_Right)], [29]⟩ 4 Try.f23 ((oc s1 (oc sV (o1 sM))).enc (v0, l1, (yy2, mo2, dd2, hh2, mi2, ss2))) = ref8_Do.t (fun b => some (.ret (packD ((oc s1 (o1 sB)).enc b)))) ref8_made ref8_Right v0 l1 yy2 mo2 dd2 hh2 mi2 ss2 := by kernel_rfl
noncomputable def ref8_Do.F (a : S27 × List S27 × Mom) : Option (S27 × Bool) := ref8_Do.t some ref8_made.F ref8_Right.F a.1 a.2.1 a.2.2.1 a.2.2.2.1 a.2.2.2.2.1 a.2.2.2.2.2.1 a.2.2.2.2.2.2.1 a.2.2.2.2.2.2.2
theorem ref8_Do.good : Good 23 (sp (oc s1 (oc sV (o1 sM))) (oc s1 (o1 sB)) ref8_Do.F) := good_tree _ _ _ (Ok.cons ref8_made.good (Ok.cons ref8_Right.good Ok.nil)) 4 (fn := Try.f23) (by kernel_rfl) (by kernel_rfl) (by kernel_rfl) fun a => (ref8_Do.nat _ ref8_made.F ref8_Right.F a.1 a.2.1 a.2.2.1 a.2.2.2.1 a.2.2.2.2.1 a.2.2.2.2.2.1 a.2.2.2.2.2.2.1 a.2.2.2.2.2.2.2).trans (ref8_Do.run ref8_made.F ref8_Right.F a.1 a.2.1 a.2.2.1 a.2.2.2.1 a.2.2.2.2.1 a.2.2.2.2.2.1 a.2.2.2.2.2.2.1 a.2.2.2.2.2.2.2).symm
noncomputable def ref10_order.t {γ : Type} (K : (Int) → Option γ)  (n0 : Int) (n1 : Int) : Option γ :=
  if n0 < n1 then K (-1)
  else if n0 > n1 then K 1
   else K 0
set_option maxRecDepth 100000 in
theorem ref10_order.nat {γ : Type} (g : (Int) → Option γ)  (n0 : Int) (n1 : Int) : (ref10_order.t some n0 n1).bind g = ref10_order.t g n0 n1 := by
  unfold ref10_order.t
  repeat' first | exact rfl | refine nat_i ?_ ?_ | refine nat_b ?_ ?_ | refine nat_o (fun _ => ?_) | refine nat_m ?_ (fun _ => ?_)
set_option maxRecDepth 100000 in
theorem ref10_order.run  (n0 : Int) (n1 : Int) : run ⟨[], []⟩ 0 Try.f43 ((oc sI (o1 sI)).enc (n0, n1)) = ref10_order.t (fun b => some (.ret (packD ((o1 sI).enc b)))) n0 n1 := by kernel_rfl
noncomputable def ref10_order.F (a : Int × Int) : Option (Int) := ref10_order.t some a.1 a.2
theorem ref10_order.good : Good 43 (sp (oc sI (o1 sI)) (o1 sI) ref10_order.F) := good_tree _ _ _ Ok.nil 0 (fn := Try.f43) (by kernel_rfl) (by kernel_rfl) (by kernel_rfl) fun a => (ref10_order.nat _ a.1 a.2).trans (ref10_order.run a.1 a.2).symm
noncomputable def ref10_Cmp.t {γ : Type} (K : (Int) → Option γ) (ref10_order : (Int × Int) → Option (Int)) (v0 : S27) (v1 : S27) : Option γ :=
  (ref10_order (v0.f0, v1.f0)).bind fun t2 => if t2 = 0 then (ref10_order ((↑v0.f1.length : Int), (↑v1.f1.length : Int))).bind fun t4 => if t4 = 0 then (if 0 < (↑v0.f1.length : Int) then (if 0 < (↑v0.f1.length : Int) then (if 0 < (↑v1.f1.length : Int) then (ref10_order (rd v0.f1 0, rd v1.f1 0)).bind fun t9 => if t9 = 0 then (if 1 < (↑v0.f1.length : Int) then (if 1 < (↑v0.f1.length : Int) then (if 1 < (↑v1.f1.length : Int) then (ref10_order (rd v0.f1 1, rd v1.f1 1)).bind fun t14 => if t14 = 0 then (if 2 < (↑v0.f1.length : Int) then (if 2 < (↑v0.f1.length : Int) then (if 2 < (↑v1.f1.length : Int) then (ref10_order (rd v0.f1 2, rd v1.f1 2)).bind fun t19 => if t19 = 0 then (if 3 < (↑v0.f1.length : Int) then (if 3 < (↑v0.f1.length : Int) then (if 3 < (↑v1.f1.length : Int) then (ref10_order (rd v0.f1 3, rd v1.f1 3)).bind fun t24 => if t24 = 0 then (if 4 < (↑v0.f1.length : Int) then (if 4 < (↑v0.f1.length : Int) then (if 4 < (↑v1.f1.length : Int) then (ref10_order (rd v0.f1 4, rd v1.f1 4)).bind fun t29 => if t29 = 0 then (if 5 < (↑v0.f1.length : Int) then (if 5 < (↑v0.f1.length : Int) then (if 5 < (↑v1.f1.length : Int) then (ref10_order (rd v0.f1 5, rd v1.f1 5)).bind fun t34 => if t34 = 0 then (if 6 < (↑v0.f1.length : Int) then (if 6 < (↑v0.f1.length : Int) then (if 6 < (↑v1.f1.length : Int) then (ref10_order (rd v0.f1 6, rd v1.f1 6)).bind fun t39 => if t39 = 0 then (if 7 < (↑v0.f1.length : Int) then (if 7 < (↑v0.f1.length : Int) then (if 7 < (↑v1.f1.length : Int) then (ref10_order (rd v0.f1 7, rd v1.f1 7)).bind fun t44 => if t44 = 0 then none
                                             else K t44
                                           else none)
                                          else none)
                                         else K 0)
                                        else K t39
                                      else none)
                                     else none)
                                    else K 0)
                                   else K t34
                                 else none)
                                else none)
                               else K 0)
                              else K t29
                            else none)
                           else none)
                          else K 0)
                         else K t24
                       else none)
                      else none)
                     else K 0)
                    else K t19
                  else none)
                 else none)
                else K 0)
               else K t14
             else none)
            else none)
           else K 0)
          else K t9
        else none)
       else none)
      else K 0)
     else K t4
   else K t2
set_option maxRecDepth 100000 in
theorem ref10_Cmp.nat {γ : Type} (g : (Int) → Option γ) (ref10_order : (Int × Int) → Option (Int)) (v0 : S27) (v1 : S27) : (ref10_Cmp.t some ref10_order v0 v1).bind g = ref10_Cmp.t g ref10_order v0 v1 := by
  unfold ref10_Cmp.t
  repeat' first | exact rfl | refine nat_i ?_ ?_ | refine nat_b ?_ ?_ | refine nat_o (fun _ => ?_) | refine nat_m ?_ (fun _ => ?_)
set_option maxRecDepth 100000 in
theorem ref10_Cmp.run (ref10_order : (Int × Int) → Option (Int)) (v0 : S27) (v1 : S27) : run ⟨[(43, sp (oc sI (o1 sI)) (o1 sI) ref10_order)], []⟩ 8 Try.f24 ((oc s1 (o1 s1)).enc (v0, v1)) = ref10_Cmp.t (fun b => some (.ret (packD ((o1 sI).enc b)))) ref10_order v0 v1 := by kernel_rfl
noncomputable def ref10_Cmp.F (a : S27 × S27) : Option (Int) := ref10_Cmp.t some ref10_order.F a.1 a.2
theorem ref10_Cmp.good : Good 24 (sp (oc s1 (o1 s1)) (o1 sI) ref10_Cmp.F) := good_tree _ _ _ (Ok.cons ref10_order.good Ok.nil) 8 (fn := Try.f24) (by kernel_rfl) (by kernel_rfl) (by kernel_rfl) fun a => (ref10_Cmp.nat _ ref10_order.F a.1 a.2).trans (ref10_Cmp.run ref10_order.F a.1 a.2).symm
noncomputable def law8_Ref.t {γ : Type} (K : (Mom) → Option γ) (law1_Day : (Int × Bool) → Option (Int × Int × Int)) (law8_within : (Int × Int) → Option (Int)) (n0 : Int) : Option γ :=
  (law1_Day (n0, false)).bind fun t2 => (law8_within (wrap64 (n0.tdiv 7), 24)).bind fun t3 => (law8_within (wrap64 (n0.tdiv 11), 60)).bind fun t4 => (law8_within (wrap64 (n0.tdiv 13), 60)).bind fun t5 => K ⟨t2.fst, t2.snd.fst, t2.snd.snd, t3, t4, t5⟩
set_option maxRecDepth 100000 in
theorem law8_Ref.nat {γ : Type} (g : (Mom) → Option γ) (law1_Day : (Int × Bool) → Option (Int × Int × Int)) (law8_within : (Int × Int) → Option (Int)) (n0 : Int) : (law8_Ref.t some law1_Day law8_within n0).bind g = law8_Ref.t g law1_Day law8_within n0 := by
  unfold law8_Ref.t
  repeat' first | exact rfl | refine nat_i ?_ ?_ | refine nat_b ?_ ?_ | refine nat_o (fun _ => ?_) | refine nat_m ?_ (fun _ => ?_)
set_option maxRecDepth 100000 in
theorem law8_Ref.run (law1_Day : (Int × Bool) → Option (Int × Int × Int)) (law8_within : (Int × Int) → Option (Int)) (n0 : Int) : run ⟨[(37, sp (oc sI (o1 sB)) (oc sI (oc sI (o1 sI))) law1_Day), (18, sp (oc sI (o1 sI)) (o1 sI) law8_within)], []⟩ 0 Try.f21 ((o1 sI).enc n0) = law8_Ref.t (fun b => some (.ret (packD ((o1 sM).enc b)))) law1_Day law8_within n0 := by kernel_rfl
noncomputable def law8_Ref.F (a : Int) : Option (Mom) := law8_Ref.t some interlocutorlaw1_Day.F interlocutorlaw8_within.F a
theorem law8_Ref.good : Good 21 (sp (o1 sI) (o1 sM) law8_Ref.F) := good_tree _ _ _ (Ok.cons interlocutorlaw1_Day.good (Ok.cons interlocutorlaw8_within.good Ok.nil)) 0 (fn := Try.f21) (by kernel_rfl) (by kernel_rfl) (by kernel_rfl) fun a => (law8_Ref.nat _ interlocutorlaw1_Day.F interlocutorlaw8_within.F a).trans (law8_Ref.run interlocutorlaw1_Day.F interlocutorlaw8_within.F a).symm
end Ev
end Go.Proofs.Ytldfljlklfhjkaa.PE
