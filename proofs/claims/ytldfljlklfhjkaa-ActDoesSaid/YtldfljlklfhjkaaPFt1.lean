/- Contracts that the evaluator tells: of each function its plain function (what its code comes to), and that each call answers so; written by a program of this session (wip/genev.py). Conditions: that the plain function answers. -/
import Derived.Test.YtldfljlklfhjkaaPFg1
namespace Go.Proofs.Ytldfljlklfhjkaa.PE
open Go.RowKit Go.Proofs.YtldfljlklfhjkaaW.PrintWords Go.Proofs.YtldfljlklfhjkaaW.PrintLast Go.Proofs.YtldfljlklfhjkaaW.PrintMore
set_option linter.unusedVariables false
set_option linter.unusedSimpArgs false
namespace Ev
noncomputable def act_fields.t {γ : Type} (K : (Int) → Option γ)  (n0 : Int) : Option γ :=
  if n0 < 4 then K (-1)
  else if n0 > 10 then K (-1)
   else if 0 ≤ wrap64 (n0 - 4) then (if wrap64 (n0 - 4) < 7 then K (rd [3, 3, 6, 2, 2, 1, 6] (wrap64 (n0 - 4)))
     else none)
    else none
set_option maxRecDepth 100000 in
theorem act_fields.nat {γ : Type} (g : (Int) → Option γ)  (n0 : Int) : (act_fields.t some n0).bind g = act_fields.t g n0 := by
  unfold act_fields.t
  repeat' first | exact rfl | refine nat_i ?_ ?_ | refine nat_b ?_ ?_ | refine nat_o (fun _ => ?_) | refine nat_m ?_ (fun _ => ?_)
set_option maxRecDepth 100000 in
theorem act_fields.run  (n0 : Int) : run ⟨[], []⟩ 0 Try.f44 ((o1 sI).enc n0) = act_fields.t (fun b => some (.ret (packD ((o1 sI).enc b)))) n0 := by kernel_rfl
noncomputable def act_fields.F (a : Int) : Option (Int) := act_fields.t some a
theorem act_fields.good : Good 44 (sp (o1 sI) (o1 sI) act_fields.F) := good_tree _ _ _ Ok.nil 0 (fn := Try.f44) (by kernel_rfl) (by kernel_rfl) (by kernel_rfl) fun a => (act_fields.nat _ a).trans (act_fields.run a).symm
noncomputable def act_day.t {γ : Type} (K : (Bool) → Option γ) (civil_Right : (Mom) → Option (Bool)) (f0 : List Int) : Option γ :=
  if 0 < (↑f0.length : Int) then (if 1 < (↑f0.length : Int) then (if 2 < (↑f0.length : Int) then (civil_Right (rd f0 0, rd f0 1, rd f0 2, 0, 0, 0)).bind fun t5 => bm (t5)
       (K true)
       (K false)
    else none)
   else none)
  else none
set_option maxRecDepth 100000 in
theorem act_day.nat {γ : Type} (g : (Bool) → Option γ) (civil_Right : (Mom) → Option (Bool)) (f0 : List Int) : (act_day.t some civil_Right f0).bind g = act_day.t g civil_Right f0 := by
  unfold act_day.t
  repeat' first | exact rfl | refine nat_i ?_ ?_ | refine nat_b ?_ ?_ | refine nat_o (fun _ => ?_) | refine nat_m ?_ (fun _ => ?_)
set_option maxRecDepth 100000 in
theorem act_day.run (civil_Right : (Mom) → Option (Bool)) (f0 : List Int) : run ⟨[(85, sp (o1 sM) (o1 sB) civil_Right)], []⟩ 0 Try.f45 ((o1 sL).enc f0) = act_day.t (fun b => some (.ret (packD ((o1 sB).enc b)))) civil_Right f0 := by kernel_rfl
noncomputable def act_day.F (a : List Int) : Option (Bool) := act_day.t some civil_Right.F a
theorem act_day.good : Good 45 (sp (o1 sL) (o1 sB) act_day.F) := good_tree _ _ _ (Ok.cons civil_Right.good Ok.nil) 0 (fn := Try.f45) (by kernel_rfl) (by kernel_rfl) (by kernel_rfl) fun a => (act_day.nat _ civil_Right.F a).trans (act_day.run civil_Right.F a).symm
noncomputable def act_time.t {γ : Type} (K : (Bool) → Option γ) (civil_Right : (Mom) → Option (Bool)) (f0 : List Int) : Option γ :=
  if 0 < (↑f0.length : Int) then (if 1 < (↑f0.length : Int) then (if 2 < (↑f0.length : Int) then (civil_Right (1, 1, 1, rd f0 0, rd f0 1, rd f0 2)).bind fun t5 => bm (t5)
       (K true)
       (K false)
    else none)
   else none)
  else none
set_option maxRecDepth 100000 in
theorem act_time.nat {γ : Type} (g : (Bool) → Option γ) (civil_Right : (Mom) → Option (Bool)) (f0 : List Int) : (act_time.t some civil_Right f0).bind g = act_time.t g civil_Right f0 := by
  unfold act_time.t
  repeat' first | exact rfl | refine nat_i ?_ ?_ | refine nat_b ?_ ?_ | refine nat_o (fun _ => ?_) | refine nat_m ?_ (fun _ => ?_)
set_option maxRecDepth 100000 in
theorem act_time.run (civil_Right : (Mom) → Option (Bool)) (f0 : List Int) : run ⟨[(85, sp (o1 sM) (o1 sB) civil_Right)], []⟩ 0 Try.f46 ((o1 sL).enc f0) = act_time.t (fun b => some (.ret (packD ((o1 sB).enc b)))) civil_Right f0 := by kernel_rfl
noncomputable def act_time.F (a : List Int) : Option (Bool) := act_time.t some civil_Right.F a
theorem act_time.good : Good 46 (sp (o1 sL) (o1 sB) act_time.F) := good_tree _ _ _ (Ok.cons civil_Right.good Ok.nil) 0 (fn := Try.f46) (by kernel_rfl) (by kernel_rfl) (by kernel_rfl) fun a => (act_time.nat _ civil_Right.F a).trans (act_time.run civil_Right.F a).symm
noncomputable def act_decimal.t {γ : Type} (K : (Bool) → Option γ) (dec_Norm : (Int × Int) → Option (Int × Int)) (f0 : List Int) : Option γ :=
  if 0 < (↑f0.length : Int) then (if rd f0 0 ≤ -1000000000000000000 then K false
   else if 0 < (↑f0.length : Int) then (if rd f0 0 ≥ 1000000000000000000 then K false
     else if 1 < (↑f0.length : Int) then (if rd f0 1 < 0 then K false
       else if 1 < (↑f0.length : Int) then (if rd f0 1 > 18 then K false
         else if 0 < (↑f0.length : Int) then (if 1 < (↑f0.length : Int) then (dec_Norm (rd f0 0, rd f0 1)).bind fun t12 => if 0 < (↑f0.length : Int) then (if t12.fst = rd f0 0 then (if 1 < (↑f0.length : Int) then (if t12.snd = rd f0 1 then K true
                else K false)
               else none)
              else K false)
             else none
           else none)
          else none)
        else none)
      else none)
    else none)
  else none
set_option maxRecDepth 100000 in
theorem act_decimal.nat {γ : Type} (g : (Bool) → Option γ) (dec_Norm : (Int × Int) → Option (Int × Int)) (f0 : List Int) : (act_decimal.t some dec_Norm f0).bind g = act_decimal.t g dec_Norm f0 := by
  unfold act_decimal.t
  repeat' first | exact rfl | refine nat_i ?_ ?_ | refine nat_b ?_ ?_ | refine nat_o (fun _ => ?_) | refine nat_m ?_ (fun _ => ?_)
set_option maxRecDepth 100000 in
theorem act_decimal.run (dec_Norm : (Int × Int) → Option (Int × Int)) (f0 : List Int) : run ⟨[(86, sp (oc sI (o1 sI)) (oc sI (o1 sI)) dec_Norm)], []⟩ 0 Try.f47 ((o1 sL).enc f0) = act_decimal.t (fun b => some (.ret (packD ((o1 sB).enc b)))) dec_Norm f0 := by kernel_rfl
noncomputable def act_decimal.F (a : List Int) : Option (Bool) := act_decimal.t some dec_Norm.F a
theorem act_decimal.good : Good 47 (sp (o1 sL) (o1 sB) act_decimal.F) := good_tree _ _ _ (Ok.cons dec_Norm.good Ok.nil) 0 (fn := Try.f47) (by kernel_rfl) (by kernel_rfl) (by kernel_rfl) fun a => (act_decimal.nat _ dec_Norm.F a).trans (act_decimal.run dec_Norm.F a).symm
noncomputable def cmp_isNaN.t {γ : Type} (K : (Bool) → Option γ)  (n0 : Int) : Option γ :=
  if n0 = n0 then K false
  else K true
set_option maxRecDepth 100000 in
theorem cmp_isNaN.nat {γ : Type} (g : (Bool) → Option γ)  (n0 : Int) : (cmp_isNaN.t some n0).bind g = cmp_isNaN.t g n0 := by
  unfold cmp_isNaN.t
  repeat' first | exact rfl | refine nat_i ?_ ?_ | refine nat_b ?_ ?_ | refine nat_o (fun _ => ?_) | refine nat_m ?_ (fun _ => ?_)
set_option maxRecDepth 100000 in
theorem cmp_isNaN.run  (n0 : Int) : run ⟨[], []⟩ 0 Try.f109 ((o1 sI).enc n0) = cmp_isNaN.t (fun b => some (.ret (packD ((o1 sB).enc b)))) n0 := by kernel_rfl
noncomputable def cmp_isNaN.F (a : Int) : Option (Bool) := cmp_isNaN.t some a
theorem cmp_isNaN.good : Good 109 (sp (o1 sI) (o1 sB) cmp_isNaN.F) := good_tree _ _ _ Ok.nil 0 (fn := Try.f109) (by kernel_rfl) (by kernel_rfl) (by kernel_rfl) fun a => (cmp_isNaN.nat _ a).trans (cmp_isNaN.run a).symm
noncomputable def cmp_Compare.t {γ : Type} (K : (Int) → Option γ) (isNaN : (Int) → Option (Bool)) (n0 : Int) (n1 : Int) : Option γ :=
  (isNaN n0).bind fun t2 => bm (t2)
    ((isNaN n1).bind fun t4 => bm (t4)
      (K 0)
      (K (-1)))
    ((isNaN n1).bind fun t4 => bm (t4)
      (K 1)
      (if n0 < n1 then K (-1)
      else if n0 > n1 then K 1
       else K 0))
set_option maxRecDepth 100000 in
theorem cmp_Compare.nat {γ : Type} (g : (Int) → Option γ) (isNaN : (Int) → Option (Bool)) (n0 : Int) (n1 : Int) : (cmp_Compare.t some isNaN n0 n1).bind g = cmp_Compare.t g isNaN n0 n1 := by
  unfold cmp_Compare.t
  repeat' first | exact rfl | refine nat_i ?_ ?_ | refine nat_b ?_ ?_ | refine nat_o (fun _ => ?_) | refine nat_m ?_ (fun _ => ?_)
set_option maxRecDepth 100000 in
theorem cmp_Compare.run (isNaN : (Int) → Option (Bool)) (n0 : Int) (n1 : Int) : run ⟨[(109, sp (o1 sI) (o1 sB) isNaN)], []⟩ 0 Try.f87 ((oc sI (o1 sI)).enc (n0, n1)) = cmp_Compare.t (fun b => some (.ret (packD ((o1 sI).enc b)))) isNaN n0 n1 := by kernel_rfl
noncomputable def cmp_Compare.F (a : Int × Int) : Option (Int) := cmp_Compare.t some cmp_isNaN.F a.1 a.2
theorem cmp_Compare.good : Good 87 (sp (oc sI (o1 sI)) (o1 sI) cmp_Compare.F) := good_tree _ _ _ (Ok.cons cmp_isNaN.good Ok.nil) 0 (fn := Try.f87) (by kernel_rfl) (by kernel_rfl) (by kernel_rfl) fun a => (cmp_Compare.nat _ cmp_isNaN.F a.1 a.2).trans (cmp_Compare.run cmp_isNaN.F a.1 a.2).symm
noncomputable def slices_Compare.t {γ : Type} (K : (Int) → Option γ) (Compare : (Int × Int) → Option (Int)) (f0 : List Int) (f1 : List Int) : Option γ :=
  if 0 < (↑f0.length : Int) then (if 0 < (↑f0.length : Int) then (if 0 ≥ (↑f1.length : Int) then K 1
    else if 0 < (↑f1.length : Int) then (Compare (rd f0 0, rd f1 0)).bind fun t6 => if t6 = 0 then (if 1 < (↑f0.length : Int) then (if 1 < (↑f0.length : Int) then (if 1 ≥ (↑f1.length : Int) then K 1
          else if 1 < (↑f1.length : Int) then (Compare (rd f0 1, rd f1 1)).bind fun t12 => if t12 = 0 then (if 2 < (↑f0.length : Int) then (if 2 < (↑f0.length : Int) then (if 2 ≥ (↑f1.length : Int) then K 1
                else if 2 < (↑f1.length : Int) then (Compare (rd f0 2, rd f1 2)).bind fun t18 => if t18 = 0 then (if 3 < (↑f0.length : Int) then (if 3 < (↑f0.length : Int) then (if 3 ≥ (↑f1.length : Int) then K 1
                      else if 3 < (↑f1.length : Int) then (Compare (rd f0 3, rd f1 3)).bind fun t24 => if t24 = 0 then (if 4 < (↑f0.length : Int) then (if 4 < (↑f0.length : Int) then (if 4 ≥ (↑f1.length : Int) then K 1
                            else if 4 < (↑f1.length : Int) then (Compare (rd f0 4, rd f1 4)).bind fun t30 => if t30 = 0 then none
                               else K t30
                             else none)
                           else none)
                          else if (↑f0.length : Int) < (↑f1.length : Int) then K (-1)
                           else K 0)
                         else K t24
                       else none)
                     else none)
                    else if (↑f0.length : Int) < (↑f1.length : Int) then K (-1)
                     else K 0)
                   else K t18
                 else none)
               else none)
              else if (↑f0.length : Int) < (↑f1.length : Int) then K (-1)
               else K 0)
             else K t12
           else none)
         else none)
        else if (↑f0.length : Int) < (↑f1.length : Int) then K (-1)
         else K 0)
       else K t6
     else none)
   else none)
  else if (↑f0.length : Int) < (↑f1.length : Int) then K (-1)
   else K 0
set_option maxRecDepth 100000 in
theorem slices_Compare.nat {γ : Type} (g : (Int) → Option γ) (Compare : (Int × Int) → Option (Int)) (f0 : List Int) (f1 : List Int) : (slices_Compare.t some Compare f0 f1).bind g = slices_Compare.t g Compare f0 f1 := by
  unfold slices_Compare.t
  repeat' first | exact rfl | refine nat_i ?_ ?_ | refine nat_b ?_ ?_ | refine nat_o (fun _ => ?_) | refine nat_m ?_ (fun _ => ?_)
set_option maxRecDepth 100000 in
theorem slices_Compare.run (Compare : (Int × Int) → Option (Int)) (f0 : List Int) (f1 : List Int) : run ⟨[(87, sp (oc sI (o1 sI)) (o1 sI) Compare)], []⟩ 5 Try.f48 ((oc sL (o1 sL)).enc (f0, f1)) = slices_Compare.t (fun b => some (.ret (packD ((o1 sI).enc b)))) Compare f0 f1 := by kernel_rfl
noncomputable def slices_Compare.F (a : List Int × List Int) : Option (Int) := slices_Compare.t some cmp_Compare.F a.1 a.2
theorem slices_Compare.good : Good 48 (sp (oc sL (o1 sL)) (o1 sI) slices_Compare.F) := good_tree _ _ _ (Ok.cons cmp_Compare.good Ok.nil) 5 (fn := Try.f48) (by kernel_rfl) (by kernel_rfl) (by kernel_rfl) fun a => (slices_Compare.nat _ cmp_Compare.F a.1 a.2).trans (slices_Compare.run cmp_Compare.F a.1 a.2).symm
noncomputable def act_Right.t {γ : Type} (K : (Bool) → Option γ) (act_fields : (Int) → Option (Int)) (act_day : (List Int) → Option (Bool)) (act_time : (List Int) → Option (Bool)) (act_decimal : (List Int) → Option (Bool)) (Compare : (List Int × List Int) → Option (Int)) (v0 : S27) : Option γ :=
  (act_fields v0.f0).bind fun t2 => if (↑v0.f1.length : Int) = t2 then (if v0.f0 = 4 then (act_day v0.f1).bind fun t5 => bm (t5)
       (K true)
       (K false)
    else if v0.f0 = 5 then (act_time v0.f1).bind fun t6 => bm (t6)
        (K true)
        (K false)
     else if v0.f0 = 6 then (act_day v0.f1).bind fun t7 => bm (t7)
         (if 3 ≤ (↑v0.f1.length : Int) then (act_time (List.drop 3 v0.f1)).bind fun t10 => bm (t10)
            (K true)
            (K false)
         else none)
         (K false)
      else if v0.f0 = 7 then (act_decimal v0.f1).bind fun t8 => bm (t8)
          (K true)
          (K false)
       else if v0.f0 = 8 then (if 0 < (↑v0.f1.length : Int) then (if rd v0.f1 0 ≥ 0 then (if 0 < (↑v0.f1.length : Int) then (if rd v0.f1 0 ≤ 1000000000 then (if 1 < (↑v0.f1.length : Int) then (if rd v0.f1 1 > -1000000000000000000 then (if 1 < (↑v0.f1.length : Int) then (if rd v0.f1 1 < 1000000000000000000 then K true
                else K false)
               else none)
              else K false)
             else none)
            else K false)
           else none)
          else K false)
         else none)
        else if v0.f0 = 9 then (if 0 < (↑v0.f1.length : Int) then (if rd v0.f1 0 ≥ 0 then (if 0 < (↑v0.f1.length : Int) then (if rd v0.f1 0 ≤ 9007199254740991 then K true
             else K false)
            else none)
           else K false)
          else none)
         else (act_day v0.f1).bind fun t10 => bm (t10)
            (if 3 ≤ (↑v0.f1.length : Int) then (act_day (List.drop 3 v0.f1)).bind fun t13 => bm (t13)
               (if 3 ≤ (↑v0.f1.length : Int) then (if 3 ≤ (↑v0.f1.length : Int) then (Compare (List.take 3 v0.f1, List.drop 3 v0.f1)).bind fun t17 => if t17 ≤ 0 then K true
                  else K false
                else none)
               else none)
               (K false)
            else none)
            (K false))
   else K false
set_option maxRecDepth 100000 in
theorem act_Right.nat {γ : Type} (g : (Bool) → Option γ) (act_fields : (Int) → Option (Int)) (act_day : (List Int) → Option (Bool)) (act_time : (List Int) → Option (Bool)) (act_decimal : (List Int) → Option (Bool)) (Compare : (List Int × List Int) → Option (Int)) (v0 : S27) : (act_Right.t some act_fields act_day act_time act_decimal Compare v0).bind g = act_Right.t g act_fields act_day act_time act_decimal Compare v0 := by
  unfold act_Right.t
  repeat' first | exact rfl | refine nat_i ?_ ?_ | refine nat_b ?_ ?_ | refine nat_o (fun _ => ?_) | refine nat_m ?_ (fun _ => ?_)
set_option maxRecDepth 100000 in
theorem act_Right.run (act_fields : (Int) → Option (Int)) (act_day : (List Int) → Option (Bool)) (act_time : (List Int) → Option (Bool)) (act_decimal : (List Int) → Option (Bool)) (Compare : (List Int × List Int) → Option (Int)) (v0 : S27) : run ⟨[(44, sp (o1 sI) (o1 sI) act_fields), (45, sp (o1 sL) (o1 sB) act_day), (46, sp (o1 sL) (o1 sB) act_time), (47, sp (o1 sL) (o1 sB) act_decimal), (48, sp (oc sL (o1 sL)) (o1 sI) Compare)], []⟩ 0 Try.f25 ((o1 s1).enc v0) = act_Right.t (fun b => some (.ret (packD ((o1 sB).enc b)))) act_fields act_day act_time act_decimal Compare v0 := by kernel_rfl
noncomputable def act_Right.F (a : S27) : Option (Bool) := act_Right.t some act_fields.F act_day.F act_time.F act_decimal.F slices_Compare.F a
theorem act_Right.good : Good 25 (sp (o1 s1) (o1 sB) act_Right.F) := good_tree _ _ _ (Ok.cons act_fields.good (Ok.cons act_day.good (Ok.cons act_time.good (Ok.cons act_decimal.good (Ok.cons slices_Compare.good Ok.nil))))) 0 (fn := Try.f25) (by kernel_rfl) (by kernel_rfl) (by kernel_rfl) fun a => (act_Right.nat _ act_fields.F act_day.F act_time.F act_decimal.F slices_Compare.F a).trans (act_Right.run act_fields.F act_day.F act_time.F act_decimal.F slices_Compare.F a).symm
noncomputable def act_value.t {γ : Type} (K : (S27) → Option γ) (Clone : (List Int) → Option (List Int)) (n0 : Int) (f1 : List Int) : Option γ :=
  (Clone f1).bind fun t2 => K ⟨n0, t2⟩
set_option maxRecDepth 100000 in
theorem act_value.nat {γ : Type} (g : (S27) → Option γ) (Clone : (List Int) → Option (List Int)) (n0 : Int) (f1 : List Int) : (act_value.t some Clone n0 f1).bind g = act_value.t g Clone n0 f1 := by
  unfold act_value.t
  repeat' first | exact rfl | refine nat_i ?_ ?_ | refine nat_b ?_ ?_ | refine nat_o (fun _ => ?_) | refine nat_m ?_ (fun _ => ?_)
set_option maxRecDepth 100000 in
theorem act_value.run (Clone : (List Int) → Option (List Int)) (n0 : Int) (f1 : List Int) : run ⟨[(58, sp (o1 sL) (o1 sL) Clone)], []⟩ 0 Try.f40 ((oc sI (o1 sL)).enc (n0, f1)) = act_value.t (fun b => some (.ret (packD ((o1 s1).enc b)))) Clone n0 f1 := by kernel_rfl
noncomputable def act_value.F (a : Int × List Int) : Option (S27) := act_value.t some slices_Clone.F a.1 a.2
theorem act_value.good : Good 40 (sp (oc sI (o1 sL)) (o1 s1) act_value.F) := good_tree _ _ _ (Ok.cons slices_Clone.good Ok.nil) 0 (fn := Try.f40) (by kernel_rfl) (by kernel_rfl) (by kernel_rfl) fun a => (act_value.nat _ slices_Clone.F a.1 a.2).trans (act_value.run slices_Clone.F a.1 a.2).symm
noncomputable def act_year.t {γ : Type} (K : (Int) → Option γ)  (v0 : S27) (yy1 mo1 dd1 hh1 mi1 ss1 : Int) : Option γ :=
  if 0 < (↑v0.f1.length : Int) then (if 1 < (↑v0.f1.length : Int) then (if rd v0.f1 1 > 2 then K (rd v0.f1 0)
    else K (wrap64 (wrap64 (yy1 - 50) + (wrap64 ((wrap64 (rd v0.f1 0 - wrap64 (yy1 - 50))).tmod 100 + 100)).tmod 100)))
   else none)
  else none
set_option maxRecDepth 100000 in
theorem act_year.nat {γ : Type} (g : (Int) → Option γ)  (v0 : S27) (yy1 mo1 dd1 hh1 mi1 ss1 : Int) : (act_year.t some v0 yy1 mo1 dd1 hh1 mi1 ss1).bind g = act_year.t g v0 yy1 mo1 dd1 hh1 mi1 ss1 := by
  unfold act_year.t
  repeat' first | exact rfl | refine nat_i ?_ ?_ | refine nat_b ?_ ?_ | refine nat_o (fun _ => ?_) | refine nat_m ?_ (fun _ => ?_)
set_option maxRecDepth 100000 in
theorem act_year.run  (v0 : S27) (yy1 mo1 dd1 hh1 mi1 ss1 : Int) : run ⟨[], []⟩ 0 Try.f56 ((oc s1 (o1 sM)).enc (v0, (yy1, mo1, dd1, hh1, mi1, ss1))) = act_year.t (fun b => some (.ret (packD ((o1 sI).enc b)))) v0 yy1 mo1 dd1 hh1 mi1 ss1 := by kernel_rfl
noncomputable def act_year.F (a : S27 × Mom) : Option (Int) := act_year.t some a.1 a.2.1 a.2.2.1 a.2.2.2.1 a.2.2.2.2.1 a.2.2.2.2.2.1 a.2.2.2.2.2.2
theorem act_year.good : Good 56 (sp (oc s1 (o1 sM)) (o1 sI) act_year.F) := good_tree _ _ _ Ok.nil 0 (fn := Try.f56) (by kernel_rfl) (by kernel_rfl) (by kernel_rfl) fun a => (act_year.nat _ a.1 a.2.1 a.2.2.1 a.2.2.2.1 a.2.2.2.2.1 a.2.2.2.2.2.1 a.2.2.2.2.2.2).trans (act_year.run a.1 a.2.1 a.2.2.1 a.2.2.2.1 a.2.2.2.2.1 a.2.2.2.2.2.1 a.2.2.2.2.2.2).symm
noncomputable def act_Year.t {γ : Type} (K : (Int × Bool) → Option γ) (act_year : (S27 × Mom) → Option (Int)) (v0 : S27) (yy1 mo1 dd1 hh1 mi1 ss1 : Int) : Option γ :=
  if v0.f0 = 1 then (if (↑v0.f1.length : Int) = 2 then (act_year ({ f0 := v0.f0, f1 := v0.f1 }, yy1, mo1, dd1, hh1, mi1, ss1)).bind fun t4 => if t4 < 1 then K ((0, false))
     else if t4 > 9999 then K ((0, false))
      else K ((t4, true))
   else K ((0, false)))
  else K ((0, false))
set_option maxRecDepth 100000 in
theorem act_Year.nat {γ : Type} (g : (Int × Bool) → Option γ) (act_year : (S27 × Mom) → Option (Int)) (v0 : S27) (yy1 mo1 dd1 hh1 mi1 ss1 : Int) : (act_Year.t some act_year v0 yy1 mo1 dd1 hh1 mi1 ss1).bind g = act_Year.t g act_year v0 yy1 mo1 dd1 hh1 mi1 ss1 := by
  unfold act_Year.t
  repeat' first | exact rfl | refine nat_i ?_ ?_ | refine nat_b ?_ ?_ | refine nat_o (fun _ => ?_) | refine nat_m ?_ (fun _ => ?_)
set_option maxRecDepth 100000 in
theorem act_Year.run (act_year : (S27 × Mom) → Option (Int)) (v0 : S27) (yy1 mo1 dd1 hh1 mi1 ss1 : Int) : run ⟨[(56, sp (oc s1 (o1 sM)) (o1 sI) act_year)], []⟩ 0 Try.f36 ((oc s1 (o1 sM)).enc (v0, (yy1, mo1, dd1, hh1, mi1, ss1))) = act_Year.t (fun b => some (.ret (packD ((oc sI (o1 sB)).enc b)))) act_year v0 yy1 mo1 dd1 hh1 mi1 ss1 := by kernel_rfl
noncomputable def act_Year.F (a : S27 × Mom) : Option (Int × Bool) := act_Year.t some act_year.F a.1 a.2.1 a.2.2.1 a.2.2.2.1 a.2.2.2.2.1 a.2.2.2.2.2.1 a.2.2.2.2.2.2
theorem act_Year.good : Good 36 (sp (oc s1 (o1 sM)) (oc sI (o1 sB)) act_Year.F) := good_tree _ _ _ (Ok.cons act_year.good Ok.nil) 0 (fn := Try.f36) (by kernel_rfl) (by kernel_rfl) (by kernel_rfl) fun a => (act_Year.nat _ act_year.F a.1 a.2.1 a.2.2.1 a.2.2.2.1 a.2.2.2.2.1 a.2.2.2.2.2.1 a.2.2.2.2.2.2).trans (act_Year.run act_year.F a.1 a.2.1 a.2.2.1 a.2.2.2.1 a.2.2.2.2.1 a.2.2.2.2.2.1 a.2.2.2.2.2.2).symm
noncomputable def act_of.t {γ : Type} (K : (List Int) → Option γ) (KD : Option γ)  (op : Int) (l : List S27) (ry rm rd_ rh ri rs : Int) (n1 : Int) (n2 : Int) : Option γ :=
  if n1 < (↑l.length : Int) then (if 0 ≤ n1 then (if n1 < (↑l.length : Int) then (if (rd_T27 l n1).f0 = n2 then (if 0 ≤ n1 then (if n1 < (↑l.length : Int) then K ((rd_T27 l n1).f1)
       else none)
      else none)
     else KD)
    else none)
   else none)
  else KD
set_option maxRecDepth 100000 in
theorem act_of.nat {γ : Type} (g : (Option (List Int)) → Option γ)  (op : Int) (l : List S27) (ry rm rd_ rh ri rs : Int) (n1 : Int) (n2 : Int) : (act_of.t (fun b => some (some b)) (some none) op l ry rm rd_ rh ri rs n1 n2).bind g = act_of.t (fun b => g (some b)) (g none) op l ry rm rd_ rh ri rs n1 n2 := by
  unfold act_of.t
  repeat' first | exact rfl | refine nat_i ?_ ?_ | refine nat_b ?_ ?_ | refine nat_o (fun _ => ?_) | refine nat_m ?_ (fun _ => ?_)
set_option maxRecDepth 100000 in
theorem act_of.run  (op : Int) (l : List S27) (ry rm rd_ rh ri rs : Int) (n1 : Int) (n2 : Int) : run ⟨[(39, spd (oc sB (o1 sI)) o0 act_must.F)], []⟩ 0 Try.f95 ((oc sK (oc sI (o1 sI))).enc ((op, l, ry, rm, rd_, rh, ri, rs), n1, n2)) = act_of.t (fun b => some (outOf (o1 sL) (some b))) (some .dies) op l ry rm rd_ rh ri rs n1 n2 := by kernel_rfl
noncomputable def act_of.F (a : (Int × List S27 × Mom) × Int × Int) : Option (Option (List Int)) := act_of.t (fun b => some (some b)) (some none) a.1.1 a.1.2.1 a.1.2.2.1 a.1.2.2.2.1 a.1.2.2.2.2.1 a.1.2.2.2.2.2.1 a.1.2.2.2.2.2.2.1 a.1.2.2.2.2.2.2.2 a.2.1 a.2.2
theorem act_of.good : Good 95 (spd (oc sK (oc sI (o1 sI))) (o1 sL) act_of.F) := good_treed _ _ _ (Ok.cons act_must.good Ok.nil) 0 (fn := Try.f95) (by kernel_rfl) (by kernel_rfl) (by kernel_rfl) fun a => (act_of.nat _ a.1.1 a.1.2.1 a.1.2.2.1 a.1.2.2.2.1 a.1.2.2.2.2.1 a.1.2.2.2.2.2.1 a.1.2.2.2.2.2.2.1 a.1.2.2.2.2.2.2.2 a.2.1 a.2.2).trans (act_of.run a.1.1 a.1.2.1 a.1.2.2.1 a.1.2.2.2.1 a.1.2.2.2.2.1 a.1.2.2.2.2.2.1 a.1.2.2.2.2.2.2.1 a.1.2.2.2.2.2.2.2 a.2.1 a.2.2).symm
noncomputable def act_number.t {γ : Type} (K : (Int) → Option γ) (KD : Option γ) (act_of : ((Int × List S27 × Mom) × Int × Int) → Option (Option (List Int))) (op : Int) (l : List S27) (ry rm rd_ rh ri rs : Int) (n1 : Int) : Option γ :=
  (act_of ((op, l, ry, rm, rd_, rh, ri, rs), n1, 1)).bind fun t2 => om (t2) (KD) fun t3 => if 0 < (↑t3.length : Int) then K (rd t3 0)
    else none
set_option maxRecDepth 100000 in
theorem act_number.nat {γ : Type} (g : (Option (Int)) → Option γ) (act_of : ((Int × List S27 × Mom) × Int × Int) → Option (Option (List Int))) (op : Int) (l : List S27) (ry rm rd_ rh ri rs : Int) (n1 : Int) : (act_number.t (fun b => some (some b)) (some none) act_of op l ry rm rd_ rh ri rs n1).bind g = act_number.t (fun b => g (some b)) (g none) act_of op l ry rm rd_ rh ri rs n1 := by
  unfold act_number.t
  repeat' first | exact rfl | refine nat_i ?_ ?_ | refine nat_b ?_ ?_ | refine nat_o (fun _ => ?_) | refine nat_m ?_ (fun _ => ?_)
set_option maxRecDepth 100000 in
theorem act_number.run (act_of : ((Int × List S27 × Mom) × Int × Int) → Option (Option (List Int))) (op : Int) (l : List S27) (ry rm rd_ rh ri rs : Int) (n1 : Int) : run ⟨[(95, spd (oc sK (oc sI (o1 sI))) (o1 sL) act_of)], []⟩ 0 Try.f91 ((oc sK (o1 sI)).enc ((op, l, ry, rm, rd_, rh, ri, rs), n1)) = act_number.t (fun b => some (outOf (o1 sI) (some b))) (some .dies) act_of op l ry rm rd_ rh ri rs n1 := by kernel_rfl
noncomputable def act_number.F (a : (Int × List S27 × Mom) × Int) : Option (Option (Int)) := act_number.t (fun b => some (some b)) (some none) act_of.F a.1.1 a.1.2.1 a.1.2.2.1 a.1.2.2.2.1 a.1.2.2.2.2.1 a.1.2.2.2.2.2.1 a.1.2.2.2.2.2.2.1 a.1.2.2.2.2.2.2.2 a.2
theorem act_number.good : Good 91 (spd (oc sK (o1 sI)) (o1 sI) act_number.F) := good_treed _ _ _ (Ok.cons act_of.good Ok.nil) 0 (fn := Try.f91) (by kernel_rfl) (by kernel_rfl) (by kernel_rfl) fun a => (act_number.nat _ act_of.F a.1.1 a.1.2.1 a.1.2.2.1 a.1.2.2.2.1 a.1.2.2.2.2.1 a.1.2.2.2.2.2.1 a.1.2.2.2.2.2.2.1 a.1.2.2.2.2.2.2.2 a.2).trans (act_number.run act_of.F a.1.1 a.1.2.1 a.1.2.2.1 a.1.2.2.2.1 a.1.2.2.2.2.1 a.1.2.2.2.2.2.1 a.1.2.2.2.2.2.2.1 a.1.2.2.2.2.2.2.2 a.2).symm
noncomputable def act_word.t {γ : Type} (K : (Int) → Option γ) (KD : Option γ) (act_of : ((Int × List S27 × Mom) × Int × Int) → Option (Option (List Int))) (op : Int) (l : List S27) (ry rm rd_ rh ri rs : Int) (n1 : Int) : Option γ :=
  (act_of ((op, l, ry, rm, rd_, rh, ri, rs), n1, 2)).bind fun t2 => om (t2) (KD) fun t3 => if 0 < (↑t3.length : Int) then K (rd t3 0)
    else none
set_option maxRecDepth 100000 in
theorem act_word.nat {γ : Type} (g : (Option (Int)) → Option γ) (act_of : ((Int × List S27 × Mom) × Int × Int) → Option (Option (List Int))) (op : Int) (l : List S27) (ry rm rd_ rh ri rs : Int) (n1 : Int) : (act_word.t (fun b => some (some b)) (some none) act_of op l ry rm rd_ rh ri rs n1).bind g = act_word.t (fun b => g (some b)) (g none) act_of op l ry rm rd_ rh ri rs n1 := by
  unfold act_word.t
  repeat' first | exact rfl | refine nat_i ?_ ?_ | refine nat_b ?_ ?_ | refine nat_o (fun _ => ?_) | refine nat_m ?_ (fun _ => ?_)
set_option maxRecDepth 100000 in
theorem act_word.run (act_of : ((Int × List S27 × Mom) × Int × Int) → Option (Option (List Int))) (op : Int) (l : List S27) (ry rm rd_ rh ri rs : Int) (n1 : Int) : run ⟨[(95, spd (oc sK (oc sI (o1 sI))) (o1 sL) act_of)], []⟩ 0 Try.f93 ((oc sK (o1 sI)).enc ((op, l, ry, rm, rd_, rh, ri, rs), n1)) = act_word.t (fun b => some (outOf (o1 sI) (some b))) (some .dies) act_of op l ry rm rd_ rh ri rs n1 := by kernel_rfl
noncomputable def act_word.F (a : (Int × List S27 × Mom) × Int) : Option (Option (Int)) := act_word.t (fun b => some (some b)) (some none) act_of.F a.1.1 a.1.2.1 a.1.2.2.1 a.1.2.2.2.1 a.1.2.2.2.2.1 a.1.2.2.2.2.2.1 a.1.2.2.2.2.2.2.1 a.1.2.2.2.2.2.2.2 a.2
theorem act_word.good : Good 93 (spd (oc sK (o1 sI)) (o1 sI) act_word.F) := good_treed _ _ _ (Ok.cons act_of.good Ok.nil) 0 (fn := Try.f93) (by kernel_rfl) (by kernel_rfl) (by kernel_rfl) fun a => (act_word.nat _ act_of.F a.1.1 a.1.2.1 a.1.2.2.1 a.1.2.2.2.1 a.1.2.2.2.2.1 a.1.2.2.2.2.2.1 a.1.2.2.2.2.2.2.1 a.1.2.2.2.2.2.2.2 a.2).trans (act_word.run act_of.F a.1.1 a.1.2.1 a.1.2.2.1 a.1.2.2.2.1 a.1.2.2.2.2.1 a.1.2.2.2.2.2.1 a.1.2.2.2.2.2.2.1 a.1.2.2.2.2.2.2.2 a.2).symm
noncomputable def act_count.t {γ : Type} (K : (Int) → Option γ) (KD : Option γ) (act_number : ((Int × List S27 × Mom) × Int) → Option (Option (Int))) (act_word : ((Int × List S27 × Mom) × Int) → Option (Option (Int))) (op : Int) (l : List S27) (ry rm rd_ rh ri rs : Int) (n1 : Int) : Option γ :=
  if n1 < (↑l.length : Int) then (if 0 ≤ n1 then (if n1 < (↑l.length : Int) then (if (rd_T27 l n1).f0 = 2 then (act_word ((op, l, ry, rm, rd_, rh, ri, rs), n1)).bind fun t6 => om (t6) (KD) fun t7 => K t7
     else (act_number ((op, l, ry, rm, rd_, rh, ri, rs), n1)).bind fun t6 => om (t6) (KD) fun t7 => K t7)
    else none)
   else none)
  else (act_number ((op, l, ry, rm, rd_, rh, ri, rs), n1)).bind fun t3 => om (t3) (KD) fun t4 => K t4
set_option maxRecDepth 100000 in
theorem act_count.nat {γ : Type} (g : (Option (Int)) → Option γ) (act_number : ((Int × List S27 × Mom) × Int) → Option (Option (Int))) (act_word : ((Int × List S27 × Mom) × Int) → Option (Option (Int))) (op : Int) (l : List S27) (ry rm rd_ rh ri rs : Int) (n1 : Int) : (act_count.t (fun b => some (some b)) (some none) act_number act_word op l ry rm rd_ rh ri rs n1).bind g = act_count.t (fun b => g (some b)) (g none) act_number act_word op l ry rm rd_ rh ri rs n1 := by
  unfold act_count.t
  repeat' first | exact rfl | refine nat_i ?_ ?_ | refine nat_b ?_ ?_ | refine nat_o (fun _ => ?_) | refine nat_m ?_ (fun _ => ?_)
set_option maxRecDepth 100000 in
theorem act_count.run (act_number : ((Int × List S27 × Mom) × Int) → Option (Option (Int))) (act_word : ((Int × List S27 × Mom) × Int) → Option (Option (Int))) (op : Int) (l : List S27) (ry rm rd_ rh ri rs : Int) (n1 : Int) : run ⟨[(91, spd (oc sK (o1 sI)) (o1 sI) act_number), (93, spd (oc sK (o1 sI)) (o1 sI) act_word)], []⟩ 0 Try.f92 ((oc sK (o1 sI)).enc ((op, l, ry, rm, rd_, rh, ri, rs), n1)) = act_count.t (fun b => some (outOf (o1 sI) (some b))) (some .dies) act_number act_word op l ry rm rd_ rh ri rs n1 := by kernel_rfl
noncomputable def act_count.F (a : (Int × List S27 × Mom) × Int) : Option (Option (Int)) := act_count.t (fun b => some (some b)) (some none) act_number.F act_word.F a.1.1 a.1.2.1 a.1.2.2.1 a.1.2.2.2.1 a.1.2.2.2.2.1 a.1.2.2.2.2.2.1 a.1.2.2.2.2.2.2.1 a.1.2.2.2.2.2.2.2 a.2
theorem act_count.good : Good 92 (spd (oc sK (o1 sI)) (o1 sI) act_count.F) := good_treed _ _ _ (Ok.cons act_number.good (Ok.cons act_word.good Ok.nil)) 0 (fn := Try.f92) (by kernel_rfl) (by kernel_rfl) (by kernel_rfl) fun a => (act_count.nat _ act_number.F act_word.F a.1.1 a.1.2.1 a.1.2.2.1 a.1.2.2.2.1 a.1.2.2.2.2.1 a.1.2.2.2.2.2.1 a.1.2.2.2.2.2.2.1 a.1.2.2.2.2.2.2.2 a.2).trans (act_count.run act_number.F act_word.F a.1.1 a.1.2.1 a.1.2.2.1 a.1.2.2.2.1 a.1.2.2.2.2.1 a.1.2.2.2.2.2.1 a.1.2.2.2.2.2.2.1 a.1.2.2.2.2.2.2.2 a.2).symm
noncomputable def act_date.t {γ : Type} (K : (S27) → Option γ) (KD : Option γ) (act_number : ((Int × List S27 × Mom) × Int) → Option (Option (Int))) (act_Year : (S27 × Mom) → Option (Int × Bool)) (act_count : ((Int × List S27 × Mom) × Int) → Option (Option (Int))) (act_value : (Int × List Int) → Option (S27)) (op : Int) (l : List S27) (ry rm rd_ rh ri rs : Int) : Option γ :=
  (act_number ((op, l, ry, rm, rd_, rh, ri, rs), 0)).bind fun t2 => om (t2) (KD) fun t3 => if 0 < (↑l.length : Int) then (act_Year ({ f0 := (rd_T27 l 0).f0, f1 := (rd_T27 l 0).f1 }, ry, rm, rd_, rh, ri, rs)).bind fun t5 => bm (t5.snd)
       ((act_count ((op, l, ry, rm, rd_, rh, ri, rs), 1)).bind fun t7 => om (t7) (KD) fun t8 => (act_number ((op, l, ry, rm, rd_, rh, ri, rs), 2)).bind fun t9 => om (t9) (KD) fun t10 => (act_value (4, [t5.fst, t8, t10])).bind fun t11 => K ⟨t11.f0, t11.f1⟩)
       (KD)
    else none
set_option maxRecDepth 100000 in
theorem act_date.nat {γ : Type} (g : (Option (S27)) → Option γ) (act_number : ((Int × List S27 × Mom) × Int) → Option (Option (Int))) (act_Year : (S27 × Mom) → Option (Int × Bool)) (act_count : ((Int × List S27 × Mom) × Int) → Option (Option (Int))) (act_value : (Int × List Int) → Option (S27)) (op : Int) (l : List S27) (ry rm rd_ rh ri rs : Int) : (act_date.t (fun b => some (some b)) (some none) act_number act_Year act_count act_value op l ry rm rd_ rh ri rs).bind g = act_date.t (fun b => g (some b)) (g none) act_number act_Year act_count act_value op l ry rm rd_ rh ri rs := by
  unfold act_date.t
  repeat' first | exact rfl | refine nat_i ?_ ?_ | refine nat_b ?_ ?_ | refine nat_o (fun _ => ?_) | refine nat_m ?_ (fun _ => ?_)
set_option maxRecDepth 100000 in
theorem act_date.run (act_number : ((Int × List S27 × Mom) × Int) → Option (Option (Int))) (act_Year : (S27 × Mom) → Option (Int × Bool)) (act_count : ((Int × List S27 × Mom) × Int) → Option (Option (Int))) (act_value : (Int × List Int) → Option (S27)) (op : Int) (l : List S27) (ry rm rd_ rh ri rs : Int) : run ⟨[(91, spd (oc sK (o1 sI)) (o1 sI) act_number), (36, sp (oc s1 (o1 sM)) (oc sI (o1 sB)) act_Year), (39, spd (oc sB (o1 sI)) o0 act_must.F), (92, spd (oc sK (o1 sI)) (o1 sI) act_count), (40, sp (oc sI (o1 sL)) (o1 s1) act_value)], []⟩ 0 Try.f59 ((o1 sK).enc (op, l, ry, rm, rd_, rh, ri, rs)) = act_date.t (fun b => some (outOf (o1 s1) (some b))) (some .dies) act_number act_Year act_count act_value op l ry rm rd_ rh ri rs := by kernel_rfl
noncomputable def act_date.F (a : (Int × List S27 × Mom)) : Option (Option (S27)) := act_date.t (fun b => some (some b)) (some none) act_number.F act_Year.F act_count.F act_value.F a.1 a.2.1 a.2.2.1 a.2.2.2.1 a.2.2.2.2.1 a.2.2.2.2.2.1 a.2.2.2.2.2.2.1 a.2.2.2.2.2.2.2
theorem act_date.good : Good 59 (spd (o1 sK) (o1 s1) act_date.F) := good_treed _ _ _ (Ok.cons act_number.good (Ok.cons act_Year.good (Ok.cons act_must.good (Ok.cons act_count.good (Ok.cons act_value.good Ok.nil))))) 0 (fn := Try.f59) (by kernel_rfl) (by kernel_rfl) (by kernel_rfl) fun a => (act_date.nat _ act_number.F act_Year.F act_count.F act_value.F a.1 a.2.1 a.2.2.1 a.2.2.2.1 a.2.2.2.2.1 a.2.2.2.2.2.1 a.2.2.2.2.2.2.1 a.2.2.2.2.2.2.2).trans (act_date.run act_number.F act_Year.F act_count.F act_value.F a.1 a.2.1 a.2.2.1 a.2.2.2.1 a.2.2.2.2.1 a.2.2.2.2.2.1 a.2.2.2.2.2.2.1 a.2.2.2.2.2.2.2).symm
noncomputable def act_this.t {γ : Type} (K : (S27) → Option γ) (KD : Option γ) (act_number : ((Int × List S27 × Mom) × Int) → Option (Option (Int))) (act_count : ((Int × List S27 × Mom) × Int) → Option (Option (Int))) (act_value : (Int × List Int) → Option (S27)) (op : Int) (l : List S27) (ry rm rd_ rh ri rs : Int) : Option γ :=
  (act_count ((op, l, ry, rm, rd_, rh, ri, rs), 0)).bind fun t2 => om (t2) (KD) fun t3 => (act_number ((op, l, ry, rm, rd_, rh, ri, rs), 1)).bind fun t4 => om (t4) (KD) fun t5 => (act_value (4, [ry, t3, t5])).bind fun t6 => K ⟨t6.f0, t6.f1⟩
set_option maxRecDepth 100000 in
theorem act_this.nat {γ : Type} (g : (Option (S27)) → Option γ) (act_number : ((Int × List S27 × Mom) × Int) → Option (Option (Int))) (act_count : ((Int × List S27 × Mom) × Int) → Option (Option (Int))) (act_value : (Int × List Int) → Option (S27)) (op : Int) (l : List S27) (ry rm rd_ rh ri rs : Int) : (act_this.t (fun b => some (some b)) (some none) act_number act_count act_value op l ry rm rd_ rh ri rs).bind g = act_this.t (fun b => g (some b)) (g none) act_number act_count act_value op l ry rm rd_ rh ri rs := by
  unfold act_this.t
  repeat' first | exact rfl | refine nat_i ?_ ?_ | refine nat_b ?_ ?_ | refine nat_o (fun _ => ?_) | refine nat_m ?_ (fun _ => ?_)
set_option maxRecDepth 100000 in
theorem act_this.run (act_number : ((Int × List S27 × Mom) × Int) → Option (Option (Int))) (act_count : ((Int × List S27 × Mom) × Int) → Option (Option (Int))) (act_value : (Int × List Int) → Option (S27)) (op : Int) (l : List S27) (ry rm rd_ rh ri rs : Int) : run ⟨[(91, spd (oc sK (o1 sI)) (o1 sI) act_number), (92, spd (oc sK (o1 sI)) (o1 sI) act_count), (40, sp (oc sI (o1 sL)) (o1 s1) act_value)], []⟩ 0 Try.f60 ((o1 sK).enc (op, l, ry, rm, rd_, rh, ri, rs)) = act_this.t (fun b => some (outOf (o1 s1) (some b))) (some .dies) act_number act_count act_value op l ry rm rd_ rh ri rs := by kernel_rfl
noncomputable def act_this.F (a : (Int × List S27 × Mom)) : Option (Option (S27)) := act_this.t (fun b => some (some b)) (some none) act_number.F act_count.F act_value.F a.1 a.2.1 a.2.2.1 a.2.2.2.1 a.2.2.2.2.1 a.2.2.2.2.2.1 a.2.2.2.2.2.2.1 a.2.2.2.2.2.2.2
theorem act_this.good : Good 60 (spd (o1 sK) (o1 s1) act_this.F) := good_treed _ _ _ (Ok.cons act_number.good (Ok.cons act_count.good (Ok.cons act_value.good Ok.nil))) 0 (fn := Try.f60) (by kernel_rfl) (by kernel_rfl) (by kernel_rfl) fun a => (act_this.nat _ act_number.F act_count.F act_value.F a.1 a.2.1 a.2.2.1 a.2.2.2.1 a.2.2.2.2.1 a.2.2.2.2.2.1 a.2.2.2.2.2.2.1 a.2.2.2.2.2.2.2).trans (act_this.run act_number.F act_count.F act_value.F a.1 a.2.1 a.2.2.1 a.2.2.2.1 a.2.2.2.2.1 a.2.2.2.2.2.1 a.2.2.2.2.2.2.1 a.2.2.2.2.2.2.2).symm
noncomputable def act_mtime.t {γ : Type} (K : (S27) → Option γ) (KD : Option γ) (act_number : ((Int × List S27 × Mom) × Int) → Option (Option (Int))) (act_value : (Int × List Int) → Option (S27)) (op : Int) (l : List S27) (ry rm rd_ rh ri rs : Int) : Option γ :=
  (act_number ((op, l, ry, rm, rd_, rh, ri, rs), 0)).bind fun t2 => om (t2) (KD) fun t3 => (act_number ((op, l, ry, rm, rd_, rh, ri, rs), 1)).bind fun t4 => om (t4) (KD) fun t5 => if (↑l.length : Int) > 2 then (act_number ((op, l, ry, rm, rd_, rh, ri, rs), 2)).bind fun t7 => om (t7) (KD) fun t8 => (act_value (5, [t3, t5, 0].set 2 t8)).bind fun t9 => K ⟨t9.f0, t9.f1⟩
      else (act_value (5, [t3, t5, 0])).bind fun t7 => K ⟨t7.f0, t7.f1⟩
set_option maxRecDepth 100000 in
theorem act_mtime.nat {γ : Type} (g : (Option (S27)) → Option γ) (act_number : ((Int × List S27 × Mom) × Int) → Option (Option (Int))) (act_value : (Int × List Int) → Option (S27)) (op : Int) (l : List S27) (ry rm rd_ rh ri rs : Int) : (act_mtime.t (fun b => some (some b)) (some none) act_number act_value op l ry rm rd_ rh ri rs).bind g = act_mtime.t (fun b => g (some b)) (g none) act_number act_value op l ry rm rd_ rh ri rs := by
  unfold act_mtime.t
  repeat' first | exact rfl | refine nat_i ?_ ?_ | refine nat_b ?_ ?_ | refine nat_o (fun _ => ?_) | refine nat_m ?_ (fun _ => ?_)
set_option maxRecDepth 100000 in
theorem act_mtime.run (act_number : ((Int × List S27 × Mom) × Int) → Option (Option (Int))) (act_value : (Int × List Int) → Option (S27)) (op : Int) (l : List S27) (ry rm rd_ rh ri rs : Int) : run ⟨[(91, spd (oc sK (o1 sI)) (o1 sI) act_number), (40, sp (oc sI (o1 sL)) (o1 s1) act_value)], [8]⟩ 0 Try.f61 ((o1 sK).enc (op, l, ry, rm, rd_, rh, ri, rs)) = act_mtime.t (fun b => some (outOf (o1 s1) (some b))) (some .dies) act_number act_value op l ry rm rd_ rh ri rs := by kernel_rfl
noncomputable def act_mtime.F (a : (Int × List S27 × Mom)) : Option (Option (S27)) := act_mtime.t (fun b => some (some b)) (some none) act_number.F act_value.F a.1 a.2.1 a.2.2.1 a.2.2.2.1 a.2.2.2.2.1 a.2.2.2.2.2.1 a.2.2.2.2.2.2.1 a.2.2.2.2.2.2.2
theorem act_mtime.good : Good 61 (spd (o1 sK) (o1 s1) act_mtime.F) := good_treed _ _ _ (Ok.cons act_number.good (Ok.cons act_value.good Ok.nil)) 0 (fn := Try.f61) (by kernel_rfl) (by kernel_rfl) (by kernel_rfl) fun a => (act_mtime.nat _ act_number.F act_value.F a.1 a.2.1 a.2.2.1 a.2.2.2.1 a.2.2.2.2.1 a.2.2.2.2.2.1 a.2.2.2.2.2.2.1 a.2.2.2.2.2.2.2).trans (act_mtime.run act_number.F act_value.F a.1 a.2.1 a.2.2.1 a.2.2.2.1 a.2.2.2.2.1 a.2.2.2.2.2.1 a.2.2.2.2.2.2.1 a.2.2.2.2.2.2.2).symm
noncomputable def act_half.t {γ : Type} (K : (S27) → Option γ) (KD : Option γ) (act_number : ((Int × List S27 × Mom) × Int) → Option (Option (Int))) (act_word : ((Int × List S27 × Mom) × Int) → Option (Option (Int))) (act_value : (Int × List Int) → Option (S27)) (op : Int) (l : List S27) (ry rm rd_ rh ri rs : Int) : Option γ :=
  (act_number ((op, l, ry, rm, rd_, rh, ri, rs), 0)).bind fun t2 => om (t2) (KD) fun t3 => if wrap64 ((↑l.length : Int) - 1) > 1 then (act_number ((op, l, ry, rm, rd_, rh, ri, rs), 1)).bind fun t5 => om (t5) (KD) fun t6 => (act_word ((op, l, ry, rm, rd_, rh, ri, rs), wrap64 ((↑l.length : Int) - 1))).bind fun t7 => om (t7) (KD) fun t8 => if t3 ≥ 1 then (if t3 ≤ 12 then (if t8 = 0 then (act_value (5, [wrap64 (t3.tmod 12 + wrap64 (12 * t8)), t6, 0])).bind fun t12 => K ⟨t12.f0, t12.f1⟩
           else if t8 = 1 then (act_value (5, [wrap64 (t3.tmod 12 + wrap64 (12 * t8)), t6, 0])).bind fun t13 => K ⟨t13.f0, t13.f1⟩
            else KD)
          else KD)
         else KD
    else (act_word ((op, l, ry, rm, rd_, rh, ri, rs), wrap64 ((↑l.length : Int) - 1))).bind fun t5 => om (t5) (KD) fun t6 => if t3 ≥ 1 then (if t3 ≤ 12 then (if t6 = 0 then (act_value (5, [wrap64 (t3.tmod 12 + wrap64 (12 * t6)), 0, 0])).bind fun t10 => K ⟨t10.f0, t10.f1⟩
         else if t6 = 1 then (act_value (5, [wrap64 (t3.tmod 12 + wrap64 (12 * t6)), 0, 0])).bind fun t11 => K ⟨t11.f0, t11.f1⟩
          else KD)
        else KD)
       else KD
set_option maxRecDepth 100000 in
theorem act_half.nat {γ : Type} (g : (Option (S27)) → Option γ) (act_number : ((Int × List S27 × Mom) × Int) → Option (Option (Int))) (act_word : ((Int × List S27 × Mom) × Int) → Option (Option (Int))) (act_value : (Int × List Int) → Option (S27)) (op : Int) (l : List S27) (ry rm rd_ rh ri rs : Int) : (act_half.t (fun b => some (some b)) (some none) act_number act_word act_value op l ry rm rd_ rh ri rs).bind g = act_half.t (fun b => g (some b)) (g none) act_number act_word act_value op l ry rm rd_ rh ri rs := by
  unfold act_half.t
  repeat' first | exact rfl | refine nat_i ?_ ?_ | refine nat_b ?_ ?_ | refine nat_o (fun _ => ?_) | refine nat_m ?_ (fun _ => ?_)
set_option maxRecDepth 100000 in
theorem act_half.run (act_number : ((Int × List S27 × Mom) × Int) → Option (Option (Int))) (act_word : ((Int × List S27 × Mom) × Int) → Option (Option (Int))) (act_value : (Int × List Int) → Option (S27)) (op : Int) (l : List S27) (ry rm rd_ rh ri rs : Int) : run ⟨[(91, spd (oc sK (o1 sI)) (o1 sI) act_number), (93, spd (oc sK (o1 sI)) (o1 sI) act_word), (39, spd (oc sB (o1 sI)) o0 act_must.F), (40, sp (oc sI (o1 sL)) (o1 s1) act_value)], []⟩ 0 Try.f62 ((o1 sK).enc (op, l, ry, rm, rd_, rh, ri, rs)) = act_half.t (fun b => some (outOf (o1 s1) (some b))) (some .dies) act_number act_word act_value op l ry rm rd_ rh ri rs := by kernel_rfl
noncomputable def act_half.F (a : (Int × List S27 × Mom)) : Option (Option (S27)) := act_half.t (fun b => some (some b)) (some none) act_number.F act_word.F act_value.F a.1 a.2.1 a.2.2.1 a.2.2.2.1 a.2.2.2.2.1 a.2.2.2.2.2.1 a.2.2.2.2.2.2.1 a.2.2.2.2.2.2.2
theorem act_half.good : Good 62 (spd (o1 sK) (o1 s1) act_half.F) := good_treed _ _ _ (Ok.cons act_number.good (Ok.cons act_word.good (Ok.cons act_must.good (Ok.cons act_value.good Ok.nil)))) 0 (fn := Try.f62) (by kernel_rfl) (by kernel_rfl) (by kernel_rfl) fun a => (act_half.nat _ act_number.F act_word.F act_value.F a.1 a.2.1 a.2.2.1 a.2.2.2.1 a.2.2.2.2.1 a.2.2.2.2.2.1 a.2.2.2.2.2.2.1 a.2.2.2.2.2.2.2).trans (act_half.run act_number.F act_word.F act_value.F a.1 a.2.1 a.2.2.1 a.2.2.2.1 a.2.2.2.2.1 a.2.2.2.2.2.1 a.2.2.2.2.2.2.1 a.2.2.2.2.2.2.2).symm
noncomputable def act_relative.t {γ : Type} (K : (S27) → Option γ) (KD : Option γ) (act_count : ((Int × List S27 × Mom) × Int) → Option (Option (Int))) (act_word : ((Int × List S27 × Mom) × Int) → Option (Option (Int))) (civil_Add : (Int × Int × Int × Int × Int) → Option (Int × Int × Int × Bool)) (act_value : (Int × List Int) → Option (S27)) (op : Int) (l : List S27) (ry rm rd_ rh ri rs : Int) : Option γ :=
  (act_count ((op, l, ry, rm, rd_, rh, ri, rs), 0)).bind fun t2 => om (t2) (KD) fun t3 => (act_word ((op, l, ry, rm, rd_, rh, ri, rs), 1)).bind fun t4 => om (t4) (KD) fun t5 => (act_word ((op, l, ry, rm, rd_, rh, ri, rs), 2)).bind fun t6 => om (t6) (KD) fun t7 => if t3 ≥ -1000000 then (if t3 ≤ 1000000 then (if t5 ≥ 1 then (if t5 ≤ 4 then (if t7 = -1 then (if 0 ≤ wrap64 (t5 - 1) then (if wrap64 (t5 - 1) < 4 then (if 0 ≤ wrap64 (t5 - 1) then (if wrap64 (t5 - 1) < 4 then (civil_Add (ry, rm, rd_, rd [0, 0, wrap64 (t3 * t7), wrap64 (12 * wrap64 (t3 * t7))] (wrap64 (t5 - 1)), rd [wrap64 (t3 * t7), wrap64 (7 * wrap64 (t3 * t7)), 0, 0] (wrap64 (t5 - 1)))).bind fun t17 => bm (t17.snd.snd.snd)
                   ((act_value (4, [t17.fst, t17.snd.fst, t17.snd.snd.fst])).bind fun t19 => K ⟨t19.f0, t19.f1⟩)
                   (KD)
                else none)
               else none)
              else none)
             else none)
            else if t7 = 1 then (if 0 ≤ wrap64 (t5 - 1) then (if wrap64 (t5 - 1) < 4 then (if 0 ≤ wrap64 (t5 - 1) then (if wrap64 (t5 - 1) < 4 then (civil_Add (ry, rm, rd_, rd [0, 0, wrap64 (t3 * t7), wrap64 (12 * wrap64 (t3 * t7))] (wrap64 (t5 - 1)), rd [wrap64 (t3 * t7), wrap64 (7 * wrap64 (t3 * t7)), 0, 0] (wrap64 (t5 - 1)))).bind fun t18 => bm (t18.snd.snd.snd)
                    ((act_value (4, [t18.fst, t18.snd.fst, t18.snd.snd.fst])).bind fun t20 => K ⟨t20.f0, t20.f1⟩)
                    (KD)
                 else none)
                else none)
               else none)
              else none)
             else KD)
           else KD)
          else KD)
         else KD)
        else KD
set_option maxRecDepth 100000 in
theorem act_relative.nat {γ : Type} (g : (Option (S27)) → Option γ) (act_count : ((Int × List S27 × Mom) × Int) → Option (Option (Int))) (act_word : ((Int × List S27 × Mom) × Int) → Option (Option (Int))) (civil_Add : (Int × Int × Int × Int × Int) → Option (Int × Int × Int × Bool)) (act_value : (Int × List Int) → Option (S27)) (op : Int) (l : List S27) (ry rm rd_ rh ri rs : Int) : (act_relative.t (fun b => some (some b)) (some none) act_count act_word civil_Add act_value op l ry rm rd_ rh ri rs).bind g = act_relative.t (fun b => g (some b)) (g none) act_count act_word civil_Add act_value op l ry rm rd_ rh ri rs := by
  unfold act_relative.t
  repeat' first | exact rfl | refine nat_i ?_ ?_ | refine nat_b ?_ ?_ | refine nat_o (fun _ => ?_) | refine nat_m ?_ (fun _ => ?_)
set_option maxRecDepth 100000 in
theorem act_relative.run (act_count : ((Int × List S27 × Mom) × Int) → Option (Option (Int))) (act_word : ((Int × List S27 × Mom) × Int) → Option (Option (Int))) (civil_Add : (Int × Int × Int × Int × Int) → Option (Int × Int × Int × Bool)) (act_value : (Int × List Int) → Option (S27)) (op : Int) (l : List S27) (ry rm rd_ rh ri rs : Int) : run ⟨[(92, spd (oc sK (o1 sI)) (o1 sI) act_count), (93, spd (oc sK (o1 sI)) (o1 sI) act_word), (39, spd (oc sB (o1 sI)) o0 act_must.F), (96, sp (oc sI (oc sI (oc sI (oc sI (o1 sI))))) (oc sI (oc sI (oc sI (o1 sB)))) civil_Add), (40, sp (oc sI (o1 sL)) (o1 s1) act_value)], []⟩ 0 Try.f64 ((o1 sK).enc (op, l, ry, rm, rd_, rh, ri, rs)) = act_relative.t (fun b => some (outOf (o1 s1) (some b))) (some .dies) act_count act_word civil_Add act_value op l ry rm rd_ rh ri rs := by kernel_rfl
noncomputable def act_relative.F (a : (Int × List S27 × Mom)) : Option (Option (S27)) := act_relative.t (fun b => some (some b)) (some none) act_count.F act_word.F civil_Add.F act_value.F a.1 a.2.1 a.2.2.1 a.2.2.2.1 a.2.2.2.2.1 a.2.2.2.2.2.1 a.2.2.2.2.2.2.1 a.2.2.2.2.2.2.2
theorem act_relative.good : Good 64 (spd (o1 sK) (o1 s1) act_relative.F) := good_treed _ _ _ (Ok.cons act_count.good (Ok.cons act_word.good (Ok.cons act_must.good (Ok.cons civil_Add.good (Ok.cons act_value.good Ok.nil))))) 0 (fn := Try.f64) (by kernel_rfl) (by kernel_rfl) (by kernel_rfl) fun a => (act_relative.nat _ act_count.F act_word.F civil_Add.F act_value.F a.1 a.2.1 a.2.2.1 a.2.2.2.1 a.2.2.2.2.1 a.2.2.2.2.2.1 a.2.2.2.2.2.2.1 a.2.2.2.2.2.2.2).trans (act_relative.run act_count.F act_word.F civil_Add.F act_value.F a.1 a.2.1 a.2.2.1 a.2.2.2.1 a.2.2.2.2.1 a.2.2.2.2.2.1 a.2.2.2.2.2.2.1 a.2.2.2.2.2.2.2).symm
noncomputable def act_next.t {γ : Type} (K : (S27) → Option γ) (KD : Option γ) (act_word : ((Int × List S27 × Mom) × Int) → Option (Option (Int))) (civil_Weekday : (Int × Int × Int) → Option (Int)) (civil_Add : (Int × Int × Int × Int × Int) → Option (Int × Int × Int × Bool)) (act_value : (Int × List Int) → Option (S27)) (op : Int) (l : List S27) (ry rm rd_ rh ri rs : Int) : Option γ :=
  (act_word ((op, l, ry, rm, rd_, rh, ri, rs), 0)).bind fun t2 => om (t2) (KD) fun t3 => if t3 ≥ 0 then (if t3 ≤ 6 then (civil_Weekday (ry, rm, rd_)).bind fun t6 => (civil_Add (ry, rm, rd_, 0, wrap64 ((wrap64 (wrap64 (t3 - t6) + 6)).tmod 7 + 1))).bind fun t7 => bm (t7.snd.snd.snd)
         ((act_value (4, [t7.fst, t7.snd.fst, t7.snd.snd.fst])).bind fun t9 => K ⟨t9.f0, t9.f1⟩)
         (KD)
     else KD)
    else KD
set_option maxRecDepth 100000 in
theorem act_next.nat {γ : Type} (g : (Option (S27)) → Option γ) (act_word : ((Int × List S27 × Mom) × Int) → Option (Option (Int))) (civil_Weekday : (Int × Int × Int) → Option (Int)) (civil_Add : (Int × Int × Int × Int × Int) → Option (Int × Int × Int × Bool)) (act_value : (Int × List Int) → Option (S27)) (op : Int) (l : List S27) (ry rm rd_ rh ri rs : Int) : (act_next.t (fun b => some (some b)) (some none) act_word civil_Weekday civil_Add act_value op l ry rm rd_ rh ri rs).bind g = act_next.t (fun b => g (some b)) (g none) act_word civil_Weekday civil_Add act_value op l ry rm rd_ rh ri rs := by
  unfold act_next.t
  repeat' first | exact rfl | refine nat_i ?_ ?_ | refine nat_b ?_ ?_ | refine nat_o (fun _ => ?_) | refine nat_m ?_ (fun _ => ?_)
set_option maxRecDepth 100000 in
theorem act_next.run (act_word : ((Int × List S27 × Mom) × Int) → Option (Option (Int))) (civil_Weekday : (Int × Int × Int) → Option (Int)) (civil_Add : (Int × Int × Int × Int × Int) → Option (Int × Int × Int × Bool)) (act_value : (Int × List Int) → Option (S27)) (op : Int) (l : List S27) (ry rm rd_ rh ri rs : Int) : run ⟨[(93, spd (oc sK (o1 sI)) (o1 sI) act_word), (39, spd (oc sB (o1 sI)) o0 act_must.F), (97, sp (oc sI (oc sI (o1 sI))) (o1 sI) civil_Weekday), (96, sp (oc sI (oc sI (oc sI (oc sI (o1 sI))))) (oc sI (oc sI (oc sI (o1 sB)))) civil_Add), (40, sp (oc sI (o1 sL)) (o1 s1) act_value)], []⟩ 0 Try.f65 ((o1 sK).enc (op, l, ry, rm, rd_, rh, ri, rs)) = act_next.t (fun b => some (outOf (o1 s1) (some b))) (some .dies) act_word civil_Weekday civil_Add act_value op l ry rm rd_ rh ri rs := by kernel_rfl
noncomputable def act_next.F (a : (Int × List S27 × Mom)) : Option (Option (S27)) := act_next.t (fun b => some (some b)) (some none) act_word.F civil_Weekday.F civil_Add.F act_value.F a.1 a.2.1 a.2.2.1 a.2.2.2.1 a.2.2.2.2.1 a.2.2.2.2.2.1 a.2.2.2.2.2.2.1 a.2.2.2.2.2.2.2
theorem act_next.good : Good 65 (spd (o1 sK) (o1 s1) act_next.F) := good_treed _ _ _ (Ok.cons act_word.good (Ok.cons act_must.good (Ok.cons civil_Weekday.good (Ok.cons civil_Add.good (Ok.cons act_value.good Ok.nil))))) 0 (fn := Try.f65) (by kernel_rfl) (by kernel_rfl) (by kernel_rfl) fun a => (act_next.nat _ act_word.F civil_Weekday.F civil_Add.F act_value.F a.1 a.2.1 a.2.2.1 a.2.2.2.1 a.2.2.2.2.1 a.2.2.2.2.2.1 a.2.2.2.2.2.2.1 a.2.2.2.2.2.2.2).trans (act_next.run act_word.F civil_Weekday.F civil_Add.F act_value.F a.1 a.2.1 a.2.2.1 a.2.2.2.1 a.2.2.2.2.1 a.2.2.2.2.2.1 a.2.2.2.2.2.2.1 a.2.2.2.2.2.2.2).symm
noncomputable def act_normed.t {γ : Type} (K : (S27) → Option γ) (dec_Norm : (Int × Int) → Option (Int × Int)) (act_value : (Int × List Int) → Option (S27)) (n0 : Int) (n1 : Int) : Option γ :=
  (dec_Norm (n0, n1)).bind fun t2 => (act_value (7, [t2.fst, t2.snd])).bind fun t3 => K ⟨t3.f0, t3.f1⟩
set_option maxRecDepth 100000 in
theorem act_normed.nat {γ : Type} (g : (S27) → Option γ) (dec_Norm : (Int × Int) → Option (Int × Int)) (act_value : (Int × List Int) → Option (S27)) (n0 : Int) (n1 : Int) : (act_normed.t some dec_Norm act_value n0 n1).bind g = act_normed.t g dec_Norm act_value n0 n1 := by
  unfold act_normed.t
  repeat' first | exact rfl | refine nat_i ?_ ?_ | refine nat_b ?_ ?_ | refine nat_o (fun _ => ?_) | refine nat_m ?_ (fun _ => ?_)
set_option maxRecDepth 100000 in
theorem act_normed.run (dec_Norm : (Int × Int) → Option (Int × Int)) (act_value : (Int × List Int) → Option (S27)) (n0 : Int) (n1 : Int) : run ⟨[(86, sp (oc sI (o1 sI)) (oc sI (o1 sI)) dec_Norm), (40, sp (oc sI (o1 sL)) (o1 s1) act_value)], []⟩ 0 Try.f98 ((oc sI (o1 sI)).enc (n0, n1)) = act_normed.t (fun b => some (.ret (packD ((o1 s1).enc b)))) dec_Norm act_value n0 n1 := by kernel_rfl
noncomputable def act_normed.F (a : Int × Int) : Option (S27) := act_normed.t some dec_Norm.F act_value.F a.1 a.2
theorem act_normed.good : Good 98 (sp (oc sI (o1 sI)) (o1 s1) act_normed.F) := good_tree _ _ _ (Ok.cons dec_Norm.good (Ok.cons act_value.good Ok.nil)) 0 (fn := Try.f98) (by kernel_rfl) (by kernel_rfl) (by kernel_rfl) fun a => (act_normed.nat _ dec_Norm.F act_value.F a.1 a.2).trans (act_normed.run dec_Norm.F act_value.F a.1 a.2).symm
noncomputable def act_whole.t {γ : Type} (K : (S27) → Option γ) (KD : Option γ) (act_number : ((Int × List S27 × Mom) × Int) → Option (Option (Int))) (act_normed : (Int × Int) → Option (S27)) (op : Int) (l : List S27) (ry rm rd_ rh ri rs : Int) : Option γ :=
  (act_number ((op, l, ry, rm, rd_, rh, ri, rs), 0)).bind fun t2 => om (t2) (KD) fun t3 => (act_normed (t3, 0)).bind fun t4 => K ⟨t4.f0, t4.f1⟩
set_option maxRecDepth 100000 in
theorem act_whole.nat {γ : Type} (g : (Option (S27)) → Option γ) (act_number : ((Int × List S27 × Mom) × Int) → Option (Option (Int))) (act_normed : (Int × Int) → Option (S27)) (op : Int) (l : List S27) (ry rm rd_ rh ri rs : Int) : (act_whole.t (fun b => some (some b)) (some none) act_number act_normed op l ry rm rd_ rh ri rs).bind g = act_whole.t (fun b => g (some b)) (g none) act_number act_normed op l ry rm rd_ rh ri rs := by
  unfold act_whole.t
  repeat' first | exact rfl | refine nat_i ?_ ?_ | refine nat_b ?_ ?_ | refine nat_o (fun _ => ?_) | refine nat_m ?_ (fun _ => ?_)
set_option maxRecDepth 100000 in
theorem act_whole.run (act_number : ((Int × List S27 × Mom) × Int) → Option (Option (Int))) (act_normed : (Int × Int) → Option (S27)) (op : Int) (l : List S27) (ry rm rd_ rh ri rs : Int) : run ⟨[(91, spd (oc sK (o1 sI)) (o1 sI) act_number), (98, sp (oc sI (o1 sI)) (o1 s1) act_normed)], []⟩ 0 Try.f66 ((o1 sK).enc (op, l, ry, rm, rd_, rh, ri, rs)) = act_whole.t (fun b => some (outOf (o1 s1) (some b))) (some .dies) act_number act_normed op l ry rm rd_ rh ri rs := by kernel_rfl
noncomputable def act_whole.F (a : (Int × List S27 × Mom)) : Option (Option (S27)) := act_whole.t (fun b => some (some b)) (some none) act_number.F act_normed.F a.1 a.2.1 a.2.2.1 a.2.2.2.1 a.2.2.2.2.1 a.2.2.2.2.2.1 a.2.2.2.2.2.2.1 a.2.2.2.2.2.2.2
theorem act_whole.good : Good 66 (spd (o1 sK) (o1 s1) act_whole.F) := good_treed _ _ _ (Ok.cons act_number.good (Ok.cons act_normed.good Ok.nil)) 0 (fn := Try.f66) (by kernel_rfl) (by kernel_rfl) (by kernel_rfl) fun a => (act_whole.nat _ act_number.F act_normed.F a.1 a.2.1 a.2.2.1 a.2.2.2.1 a.2.2.2.2.1 a.2.2.2.2.2.1 a.2.2.2.2.2.2.1 a.2.2.2.2.2.2.2).trans (act_whole.run act_number.F act_normed.F a.1 a.2.1 a.2.2.1 a.2.2.2.1 a.2.2.2.2.1 a.2.2.2.2.2.1 a.2.2.2.2.2.2.1 a.2.2.2.2.2.2.2).symm
noncomputable def act_point.t {γ : Type} (K : (S27) → Option γ) (KD : Option γ) (act_number : ((Int × List S27 × Mom) × Int) → Option (Option (Int))) (act_of : ((Int × List S27 × Mom) × Int × Int) → Option (Option (List Int))) (dec_Join : (Int × Int × Int) → Option (Int × Int × Bool)) (act_value : (Int × List Int) → Option (S27)) (op : Int) (l : List S27) (ry rm rd_ rh ri rs : Int) : Option γ :=
  (act_number ((op, l, ry, rm, rd_, rh, ri, rs), 0)).bind fun t2 => om (t2) (KD) fun t3 => (act_number ((op, l, ry, rm, rd_, rh, ri, rs), 1)).bind fun t4 => om (t4) (KD) fun t5 => (act_of ((op, l, ry, rm, rd_, rh, ri, rs), 1, 1)).bind fun t6 => om (t6) (KD) fun t7 => if 1 < (↑t7.length : Int) then (dec_Join (t3, t5, rd t7 1)).bind fun t9 => bm (t9.snd.snd)
           ((act_value (7, [t9.fst, t9.snd.fst])).bind fun t11 => K ⟨t11.f0, t11.f1⟩)
           (KD)
        else none
set_option maxRecDepth 100000 in
theorem act_point.nat {γ : Type} (g : (Option (S27)) → Option γ) (act_number : ((Int × List S27 × Mom) × Int) → Option (Option (Int))) (act_of : ((Int × List S27 × Mom) × Int × Int) → Option (Option (List Int))) (dec_Join : (Int × Int × Int) → Option (Int × Int × Bool)) (act_value : (Int × List Int) → Option (S27)) (op : Int) (l : List S27) (ry rm rd_ rh ri rs : Int) : (act_point.t (fun b => some (some b)) (some none) act_number act_of dec_Join act_value op l ry rm rd_ rh ri rs).bind g = act_point.t (fun b => g (some b)) (g none) act_number act_of dec_Join act_value op l ry rm rd_ rh ri rs := by
  unfold act_point.t
  repeat' first | exact rfl | refine nat_i ?_ ?_ | refine nat_b ?_ ?_ | refine nat_o (fun _ => ?_) | refine nat_m ?_ (fun _ => ?_)
set_option maxRecDepth 100000 in
theorem act_point.run (act_number : ((Int × List S27 × Mom) × Int) → Option (Option (Int))) (act_of : ((Int × List S27 × Mom) × Int × Int) → Option (Option (List Int))) (dec_Join : (Int × Int × Int) → Option (Int × Int × Bool)) (act_value : (Int × List Int) → Option (S27)) (op : Int) (l : List S27) (ry rm rd_ rh ri rs : Int) : run ⟨[(91, spd (oc sK (o1 sI)) (o1 sI) act_number), (95, spd (oc sK (oc sI (o1 sI))) (o1 sL) act_of), (99, sp (oc sI (oc sI (o1 sI))) (oc sI (oc sI (o1 sB))) dec_Join), (39, spd (oc sB (o1 sI)) o0 act_must.F), (40, sp (oc sI (o1 sL)) (o1 s1) act_value)], []⟩ 0 Try.f67 ((o1 sK).enc (op, l, ry, rm, rd_, rh, ri, rs)) = act_point.t (fun b => some (outOf (o1 s1) (some b))) (some .dies) act_number act_of dec_Join act_value op l ry rm rd_ rh ri rs := by kernel_rfl
noncomputable def act_point.F (a : (Int × List S27 × Mom)) : Option (Option (S27)) := act_point.t (fun b => some (some b)) (some none) act_number.F act_of.F dec_Join.F act_value.F a.1 a.2.1 a.2.2.1 a.2.2.2.1 a.2.2.2.2.1 a.2.2.2.2.2.1 a.2.2.2.2.2.2.1 a.2.2.2.2.2.2.2
theorem act_point.good : Good 67 (spd (o1 sK) (o1 s1) act_point.F) := good_treed _ _ _ (Ok.cons act_number.good (Ok.cons act_of.good (Ok.cons dec_Join.good (Ok.cons act_must.good (Ok.cons act_value.good Ok.nil))))) 0 (fn := Try.f67) (by kernel_rfl) (by kernel_rfl) (by kernel_rfl) fun a => (act_point.nat _ act_number.F act_of.F dec_Join.F act_value.F a.1 a.2.1 a.2.2.1 a.2.2.2.1 a.2.2.2.2.1 a.2.2.2.2.2.1 a.2.2.2.2.2.2.1 a.2.2.2.2.2.2.2).trans (act_point.run act_number.F act_of.F dec_Join.F act_value.F a.1 a.2.1 a.2.2.1 a.2.2.2.1 a.2.2.2.2.1 a.2.2.2.2.2.1 a.2.2.2.2.2.2.1 a.2.2.2.2.2.2.2).symm
noncomputable def act_group.t {γ : Type} (K : (S27) → Option γ) (KD : Option γ) (act_of : ((Int × List S27 × Mom) × Int × Int) → Option (Option (List Int))) (act_normed : (Int × Int) → Option (S27)) (op : Int) (l : List S27) (ry rm rd_ rh ri rs : Int) : Option γ :=
  if 0 < (↑l.length : Int) then (act_of ((op, l, ry, rm, rd_, rh, ri, rs), 0, 1)).bind fun t3 => om (t3) (KD) fun t4 => if 1 < (↑t4.length : Int) then (if 1 < (↑t4.length : Int) then (if rd t4 1 = 3 then (if wrap64 (0 + rd t4 1) ≤ 18 then (if 0 < (↑t4.length : Int) then (if 1 < (↑l.length : Int) then (act_of ((op, l, ry, rm, rd_, rh, ri, rs), 1, 1)).bind fun t11 => om (t11) (KD) fun t12 => if 1 < (↑t12.length : Int) then (if 1 < (↑t12.length : Int) then (if rd t12 1 = 3 then (if wrap64 (wrap64 (0 + rd t4 1) + rd t12 1) ≤ 18 then (if 0 < (↑t12.length : Int) then (if 2 < (↑l.length : Int) then (act_of ((op, l, ry, rm, rd_, rh, ri, rs), 2, 1)).bind fun t19 => om (t19) (KD) fun t20 => if 1 < (↑t20.length : Int) then (if 1 < (↑t20.length : Int) then (if rd t20 1 = 3 then (if wrap64 (wrap64 (wrap64 (0 + rd t4 1) + rd t12 1) + rd t20 1) ≤ 18 then (if 0 < (↑t20.length : Int) then (if 3 < (↑l.length : Int) then (act_of ((op, l, ry, rm, rd_, rh, ri, rs), 3, 1)).bind fun t27 => om (t27) (KD) fun t28 => if 1 < (↑t28.length : Int) then (if 1 < (↑t28.length : Int) then (if rd t28 1 = 3 then (if wrap64 (wrap64 (wrap64 (wrap64 (0 + rd t4 1) + rd t12 1) + rd t20 1) + rd t28 1) ≤ 18 then (if 0 < (↑t28.length : Int) then (if 4 < (↑l.length : Int) then (act_of ((op, l, ry, rm, rd_, rh, ri, rs), 4, 1)).bind fun t35 => om (t35) (KD) fun t36 => if 1 < (↑t36.length : Int) then (if 1 < (↑t36.length : Int) then (if rd t36 1 = 3 then (if wrap64 (wrap64 (wrap64 (wrap64 (wrap64 (0 + rd t4 1) + rd t12 1) + rd t20 1) + rd t28 1) + rd t36 1) ≤ 18 then (if 0 < (↑t36.length : Int) then (if 5 < (↑l.length : Int) then (act_of ((op, l, ry, rm, rd_, rh, ri, rs), 5, 1)).bind fun t43 => om (t43) (KD) fun t44 => if 1 < (↑t44.length : Int) then (if 1 < (↑t44.length : Int) then (if rd t44 1 = 3 then (if wrap64 (wrap64 (wrap64 (wrap64 (wrap64 (wrap64 (0 + rd t4 1) + rd t12 1) + rd t20 1) + rd t28 1) + rd t36 1) + rd t44 1) ≤ 18 then (if 0 < (↑t44.length : Int) then (if 6 < (↑l.length : Int) then (act_of ((op, l, ry, rm, rd_, rh, ri, rs), 6, 1)).bind fun t51 => om (t51) (KD) fun t52 => if 1 < (↑t52.length : Int) then (if 1 < (↑t52.length : Int) then (if rd t52 1 = 3 then (if wrap64 (wrap64 (wrap64 (wrap64 (wrap64 (wrap64 (wrap64 (0 + rd t4 1) + rd t12 1) + rd t20 1) + rd t28 1) + rd t36 1) + rd t44 1) + rd t52 1) ≤ 18 then (if 0 < (↑t52.length : Int) then (if 7 < (↑l.length : Int) then (act_of ((op, l, ry, rm, rd_, rh, ri, rs), 7, 1)).bind fun t59 => om (t59) (KD) fun t60 => if 1 < (↑t60.length : Int) then (if 1 < (↑t60.length : Int) then (if rd t60 1 = 3 then (if wrap64 (wrap64 (wrap64 (wrap64 (wrap64 (wrap64 (wrap64 (wrap64 (0 + rd t4 1) + rd t12 1) + rd t20 1) + rd t28 1) + rd t36 1) + rd t44 1) + rd t52 1) + rd t60 1) ≤ 18 then (if 0 < (↑t60.length : Int) then none
                                                                 else none)
                                                                else KD)
                                                               else KD)
                                                              else none)
                                                             else none
                                                          else (act_normed (wrap64 (wrap64 (1000 * wrap64 (wrap64 (1000 * wrap64 (wrap64 (1000 * wrap64 (wrap64 (1000 * wrap64 (wrap64 (1000 * wrap64 (wrap64 (1000 * wrap64 (0 + rd t4 0)) + rd t12 0)) + rd t20 0)) + rd t28 0)) + rd t36 0)) + rd t44 0)) + rd t52 0), 0)).bind fun t59 => K ⟨t59.f0, t59.f1⟩)
                                                         else none)
                                                        else KD)
                                                       else KD)
                                                      else none)
                                                     else none
                                                  else (act_normed (wrap64 (wrap64 (1000 * wrap64 (wrap64 (1000 * wrap64 (wrap64 (1000 * wrap64 (wrap64 (1000 * wrap64 (wrap64 (1000 * wrap64 (0 + rd t4 0)) + rd t12 0)) + rd t20 0)) + rd t28 0)) + rd t36 0)) + rd t44 0), 0)).bind fun t51 => K ⟨t51.f0, t51.f1⟩)
                                                 else none)
                                                else KD)
                                               else KD)
                                              else none)
                                             else none
                                          else (act_normed (wrap64 (wrap64 (1000 * wrap64 (wrap64 (1000 * wrap64 (wrap64 (1000 * wrap64 (wrap64 (1000 * wrap64 (0 + rd t4 0)) + rd t12 0)) + rd t20 0)) + rd t28 0)) + rd t36 0), 0)).bind fun t43 => K ⟨t43.f0, t43.f1⟩)
                                         else none)
                                        else KD)
                                       else KD)
                                      else none)
                                     else none
                                  else (act_normed (wrap64 (wrap64 (1000 * wrap64 (wrap64 (1000 * wrap64 (wrap64 (1000 * wrap64 (0 + rd t4 0)) + rd t12 0)) + rd t20 0)) + rd t28 0), 0)).bind fun t35 => K ⟨t35.f0, t35.f1⟩)
                                 else none)
                                else KD)
                               else KD)
                              else none)
                             else none
                          else (act_normed (wrap64 (wrap64 (1000 * wrap64 (wrap64 (1000 * wrap64 (0 + rd t4 0)) + rd t12 0)) + rd t20 0), 0)).bind fun t27 => K ⟨t27.f0, t27.f1⟩)
                         else none)
                        else KD)
                       else KD)
                      else none)
                     else none
                  else (act_normed (wrap64 (wrap64 (1000 * wrap64 (0 + rd t4 0)) + rd t12 0), 0)).bind fun t19 => K ⟨t19.f0, t19.f1⟩)
                 else none)
                else KD)
               else KD)
              else none)
             else none
          else (act_normed (wrap64 (0 + rd t4 0), 0)).bind fun t11 => K ⟨t11.f0, t11.f1⟩)
         else none)
        else KD)
       else if 1 < (↑t4.length : Int) then (if rd t4 1 < 3 then (if wrap64 (0 + rd t4 1) ≤ 18 then (if 0 < (↑t4.length : Int) then (if 1 < (↑l.length : Int) then (act_of ((op, l, ry, rm, rd_, rh, ri, rs), 1, 1)).bind fun t13 => om (t13) (KD) fun t14 => if 1 < (↑t14.length : Int) then (if 1 < (↑t14.length : Int) then (if rd t14 1 = 3 then (if wrap64 (wrap64 (0 + rd t4 1) + rd t14 1) ≤ 18 then (if 0 < (↑t14.length : Int) then (if 2 < (↑l.length : Int) then (act_of ((op, l, ry, rm, rd_, rh, ri, rs), 2, 1)).bind fun t21 => om (t21) (KD) fun t22 => if 1 < (↑t22.length : Int) then (if 1 < (↑t22.length : Int) then (if rd t22 1 = 3 then (if wrap64 (wrap64 (wrap64 (0 + rd t4 1) + rd t14 1) + rd t22 1) ≤ 18 then (if 0 < (↑t22.length : Int) then (if 3 < (↑l.length : Int) then (act_of ((op, l, ry, rm, rd_, rh, ri, rs), 3, 1)).bind fun t29 => om (t29) (KD) fun t30 => if 1 < (↑t30.length : Int) then (if 1 < (↑t30.length : Int) then (if rd t30 1 = 3 then (if wrap64 (wrap64 (wrap64 (wrap64 (0 + rd t4 1) + rd t14 1) + rd t22 1) + rd t30 1) ≤ 18 then (if 0 < (↑t30.length : Int) then (if 4 < (↑l.length : Int) then (act_of ((op, l, ry, rm, rd_, rh, ri, rs), 4, 1)).bind fun t37 => om (t37) (KD) fun t38 => if 1 < (↑t38.length : Int) then (if 1 < (↑t38.length : Int) then (if rd t38 1 = 3 then (if wrap64 (wrap64 (wrap64 (wrap64 (wrap64 (0 + rd t4 1) + rd t14 1) + rd t22 1) + rd t30 1) + rd t38 1) ≤ 18 then (if 0 < (↑t38.length : Int) then (if 5 < (↑l.length : Int) then (act_of ((op, l, ry, rm, rd_, rh, ri, rs), 5, 1)).bind fun t45 => om (t45) (KD) fun t46 => if 1 < (↑t46.length : Int) then (if 1 < (↑t46.length : Int) then (if rd t46 1 = 3 then (if wrap64 (wrap64 (wrap64 (wrap64 (wrap64 (wrap64 (0 + rd t4 1) + rd t14 1) + rd t22 1) + rd t30 1) + rd t38 1) + rd t46 1) ≤ 18 then (if 0 < (↑t46.length : Int) then (if 6 < (↑l.length : Int) then (act_of ((op, l, ry, rm, rd_, rh, ri, rs), 6, 1)).bind fun t53 => om (t53) (KD) fun t54 => if 1 < (↑t54.length : Int) then (if 1 < (↑t54.length : Int) then (if rd t54 1 = 3 then (if wrap64 (wrap64 (wrap64 (wrap64 (wrap64 (wrap64 (wrap64 (0 + rd t4 1) + rd t14 1) + rd t22 1) + rd t30 1) + rd t38 1) + rd t46 1) + rd t54 1) ≤ 18 then (if 0 < (↑t54.length : Int) then (if 7 < (↑l.length : Int) then (act_of ((op, l, ry, rm, rd_, rh, ri, rs), 7, 1)).bind fun t61 => om (t61) (KD) fun t62 => if 1 < (↑t62.length : Int) then (if 1 < (↑t62.length : Int) then (if rd t62 1 = 3 then (if wrap64 (wrap64 (wrap64 (wrap64 (wrap64 (wrap64 (wrap64 (wrap64 (0 + rd t4 1) + rd t14 1) + rd t22 1) + rd t30 1) + rd t38 1) + rd t46 1) + rd t54 1) + rd t62 1) ≤ 18 then (if 0 < (↑t62.length : Int) then none
                                                                   else none)
                                                                  else KD)
                                                                 else KD)
                                                                else none)
                                                               else none
                                                            else (act_normed (wrap64 (wrap64 (1000 * wrap64 (wrap64 (1000 * wrap64 (wrap64 (1000 * wrap64 (wrap64 (1000 * wrap64 (wrap64 (1000 * wrap64 (wrap64 (1000 * wrap64 (0 + rd t4 0)) + rd t14 0)) + rd t22 0)) + rd t30 0)) + rd t38 0)) + rd t46 0)) + rd t54 0), 0)).bind fun t61 => K ⟨t61.f0, t61.f1⟩)
                                                           else none)
                                                          else KD)
                                                         else KD)
                                                        else none)
                                                       else none
                                                    else (act_normed (wrap64 (wrap64 (1000 * wrap64 (wrap64 (1000 * wrap64 (wrap64 (1000 * wrap64 (wrap64 (1000 * wrap64 (wrap64 (1000 * wrap64 (0 + rd t4 0)) + rd t14 0)) + rd t22 0)) + rd t30 0)) + rd t38 0)) + rd t46 0), 0)).bind fun t53 => K ⟨t53.f0, t53.f1⟩)
                                                   else none)
                                                  else KD)
                                                 else KD)
                                                else none)
                                               else none
                                            else (act_normed (wrap64 (wrap64 (1000 * wrap64 (wrap64 (1000 * wrap64 (wrap64 (1000 * wrap64 (wrap64 (1000 * wrap64 (0 + rd t4 0)) + rd t14 0)) + rd t22 0)) + rd t30 0)) + rd t38 0), 0)).bind fun t45 => K ⟨t45.f0, t45.f1⟩)
                                           else none)
                                          else KD)
                                         else KD)
                                        else none)
                                       else none
                                    else (act_normed (wrap64 (wrap64 (1000 * wrap64 (wrap64 (1000 * wrap64 (wrap64 (1000 * wrap64 (0 + rd t4 0)) + rd t14 0)) + rd t22 0)) + rd t30 0), 0)).bind fun t37 => K ⟨t37.f0, t37.f1⟩)
                                   else none)
                                  else KD)
                                 else KD)
                                else none)
                               else none
                            else (act_normed (wrap64 (wrap64 (1000 * wrap64 (wrap64 (1000 * wrap64 (0 + rd t4 0)) + rd t14 0)) + rd t22 0), 0)).bind fun t29 => K ⟨t29.f0, t29.f1⟩)
                           else none)
                          else KD)
                         else KD)
                        else none)
                       else none
                    else (act_normed (wrap64 (wrap64 (1000 * wrap64 (0 + rd t4 0)) + rd t14 0), 0)).bind fun t21 => K ⟨t21.f0, t21.f1⟩)
                   else none)
                  else KD)
                 else KD)
                else none)
               else none
            else (act_normed (wrap64 (0 + rd t4 0), 0)).bind fun t13 => K ⟨t13.f0, t13.f1⟩)
           else none)
          else KD)
         else KD)
        else none)
      else none)
     else none
  else (act_normed (0, 0)).bind fun t3 => K ⟨t3.f0, t3.f1⟩
set_option maxRecDepth 100000 in
theorem act_group.nat {γ : Type} (g : (Option (S27)) → Option γ) (act_of : ((Int × List S27 × Mom) × Int × Int) → Option (Option (List Int))) (act_normed : (Int × Int) → Option (S27)) (op : Int) (l : List S27) (ry rm rd_ rh ri rs : Int) : (act_group.t (fun b => some (some b)) (some none) act_of act_normed op l ry rm rd_ rh ri rs).bind g = act_group.t (fun b => g (some b)) (g none) act_of act_normed op l ry rm rd_ rh ri rs := by
  unfold act_group.t
  repeat' first | exact rfl | refine nat_i ?_ ?_ | refine nat_b ?_ ?_ | refine nat_o (fun _ => ?_) | refine nat_m ?_ (fun _ => ?_)
set_option maxRecDepth 100000 in
theorem act_group.run (act_of : ((Int × List S27 × Mom) × Int × Int) → Option (Option (List Int))) (act_normed : (Int × Int) → Option (S27)) (op : Int) (l : List S27) (ry rm rd_ rh ri rs : Int) : run ⟨[(95, spd (oc sK (oc sI (o1 sI))) (o1 sL) act_of), (39, spd (oc sB (o1 sI)) o0 act_must.F), (98, sp (oc sI (o1 sI)) (o1 s1) act_normed)], []⟩ 8 Try.f68 ((o1 sK).enc (op, l, ry, rm, rd_, rh, ri, rs)) = act_group.t (fun b => some (outOf (o1 s1) (some b))) (some .dies) act_of act_normed op l ry rm rd_ rh ri rs := by kernel_rfl
noncomputable def act_group.F (a : (Int × List S27 × Mom)) : Option (Option (S27)) := act_group.t (fun b => some (some b)) (some none) act_of.F act_normed.F a.1 a.2.1 a.2.2.1 a.2.2.2.1 a.2.2.2.2.1 a.2.2.2.2.2.1 a.2.2.2.2.2.2.1 a.2.2.2.2.2.2.2
theorem act_group.good : Good 68 (spd (o1 sK) (o1 s1) act_group.F) := good_treed _ _ _ (Ok.cons act_of.good (Ok.cons act_must.good (Ok.cons act_normed.good Ok.nil))) 8 (fn := Try.f68) (by kernel_rfl) (by kernel_rfl) (by kernel_rfl) fun a => (act_group.nat _ act_of.F act_normed.F a.1 a.2.1 a.2.2.1 a.2.2.2.1 a.2.2.2.2.1 a.2.2.2.2.2.1 a.2.2.2.2.2.2.1 a.2.2.2.2.2.2.2).trans (act_group.run act_of.F act_normed.F a.1 a.2.1 a.2.2.1 a.2.2.2.1 a.2.2.2.2.1 a.2.2.2.2.2.1 a.2.2.2.2.2.2.1 a.2.2.2.2.2.2.2).symm
noncomputable def act_negative.t {γ : Type} (K : (S27) → Option γ) (KD : Option γ) (act_of : ((Int × List S27 × Mom) × Int × Int) → Option (Option (List Int))) (act_value : (Int × List Int) → Option (S27)) (op : Int) (l : List S27) (ry rm rd_ rh ri rs : Int) : Option γ :=
  (act_of ((op, l, ry, rm, rd_, rh, ri, rs), 0, 7)).bind fun t2 => om (t2) (KD) fun t3 => if 0 < (↑t3.length : Int) then (if 1 < (↑t3.length : Int) then (act_value (7, [wrap64 (0 - rd t3 0), rd t3 1])).bind fun t6 => K ⟨t6.f0, t6.f1⟩
     else none)
    else none
set_option maxRecDepth 100000 in
theorem act_negative.nat {γ : Type} (g : (Option (S27)) → Option γ) (act_of : ((Int × List S27 × Mom) × Int × Int) → Option (Option (List Int))) (act_value : (Int × List Int) → Option (S27)) (op : Int) (l : List S27) (ry rm rd_ rh ri rs : Int) : (act_negative.t (fun b => some (some b)) (some none) act_of act_value op l ry rm rd_ rh ri rs).bind g = act_negative.t (fun b => g (some b)) (g none) act_of act_value op l ry rm rd_ rh ri rs := by
  unfold act_negative.t
  repeat' first | exact rfl | refine nat_i ?_ ?_ | refine nat_b ?_ ?_ | refine nat_o (fun _ => ?_) | refine nat_m ?_ (fun _ => ?_)
set_option maxRecDepth 100000 in
theorem act_negative.run (act_of : ((Int × List S27 × Mom) × Int × Int) → Option (Option (List Int))) (act_value : (Int × List Int) → Option (S27)) (op : Int) (l : List S27) (ry rm rd_ rh ri rs : Int) : run ⟨[(95, spd (oc sK (oc sI (o1 sI))) (o1 sL) act_of), (40, sp (oc sI (o1 sL)) (o1 s1) act_value)], []⟩ 0 Try.f69 ((o1 sK).enc (op, l, ry, rm, rd_, rh, ri, rs)) = act_negative.t (fun b => some (outOf (o1 s1) (some b))) (some .dies) act_of act_value op l ry rm rd_ rh ri rs := by kernel_rfl
noncomputable def act_negative.F (a : (Int × List S27 × Mom)) : Option (Option (S27)) := act_negative.t (fun b => some (some b)) (some none) act_of.F act_value.F a.1 a.2.1 a.2.2.1 a.2.2.2.1 a.2.2.2.2.1 a.2.2.2.2.2.1 a.2.2.2.2.2.2.1 a.2.2.2.2.2.2.2
theorem act_negative.good : Good 69 (spd (o1 sK) (o1 s1) act_negative.F) := good_treed _ _ _ (Ok.cons act_of.good (Ok.cons act_value.good Ok.nil)) 0 (fn := Try.f69) (by kernel_rfl) (by kernel_rfl) (by kernel_rfl) fun a => (act_negative.nat _ act_of.F act_value.F a.1 a.2.1 a.2.2.1 a.2.2.2.1 a.2.2.2.2.1 a.2.2.2.2.2.1 a.2.2.2.2.2.2.1 a.2.2.2.2.2.2.2).trans (act_negative.run act_of.F act_value.F a.1 a.2.1 a.2.2.1 a.2.2.2.1 a.2.2.2.2.1 a.2.2.2.2.2.1 a.2.2.2.2.2.2.1 a.2.2.2.2.2.2.2).symm
noncomputable def act_money.t {γ : Type} (K : (S27) → Option γ) (KD : Option γ) (act_word : ((Int × List S27 × Mom) × Int) → Option (Option (Int))) (act_of : ((Int × List S27 × Mom) × Int × Int) → Option (Option (List Int))) (dec_Scaled : (Int × Int × Int) → Option (Int × Bool)) (act_value : (Int × List Int) → Option (S27)) (op : Int) (l : List S27) (ry rm rd_ rh ri rs : Int) : Option γ :=
  (act_word ((op, l, ry, rm, rd_, rh, ri, rs), 0)).bind fun t2 => om (t2) (KD) fun t3 => (act_of ((op, l, ry, rm, rd_, rh, ri, rs), 1, 7)).bind fun t4 => om (t4) (KD) fun t5 => if t3 ≥ 0 then (if 0 < (↑t5.length : Int) then (if 1 < (↑t5.length : Int) then (dec_Scaled (rd t5 0, rd t5 1, t3.tmod 10)).bind fun t9 => bm (t9.snd)
           ((act_value (8, [t3, t9.fst])).bind fun t11 => K ⟨t11.f0, t11.f1⟩)
           (KD)
        else none)
       else none)
      else KD
set_option maxRecDepth 100000 in
theorem act_money.nat {γ : Type} (g : (Option (S27)) → Option γ) (act_word : ((Int × List S27 × Mom) × Int) → Option (Option (Int))) (act_of : ((Int × List S27 × Mom) × Int × Int) → Option (Option (List Int))) (dec_Scaled : (Int × Int × Int) → Option (Int × Bool)) (act_value : (Int × List Int) → Option (S27)) (op : Int) (l : List S27) (ry rm rd_ rh ri rs : Int) : (act_money.t (fun b => some (some b)) (some none) act_word act_of dec_Scaled act_value op l ry rm rd_ rh ri rs).bind g = act_money.t (fun b => g (some b)) (g none) act_word act_of dec_Scaled act_value op l ry rm rd_ rh ri rs := by
  unfold act_money.t
  repeat' first | exact rfl | refine nat_i ?_ ?_ | refine nat_b ?_ ?_ | refine nat_o (fun _ => ?_) | refine nat_m ?_ (fun _ => ?_)
set_option maxRecDepth 100000 in
theorem act_money.run (act_word : ((Int × List S27 × Mom) × Int) → Option (Option (Int))) (act_of : ((Int × List S27 × Mom) × Int × Int) → Option (Option (List Int))) (dec_Scaled : (Int × Int × Int) → Option (Int × Bool)) (act_value : (Int × List Int) → Option (S27)) (op : Int) (l : List S27) (ry rm rd_ rh ri rs : Int) : run ⟨[(93, spd (oc sK (o1 sI)) (o1 sI) act_word), (95, spd (oc sK (oc sI (o1 sI))) (o1 sL) act_of), (39, spd (oc sB (o1 sI)) o0 act_must.F), (100, sp (oc sI (oc sI (o1 sI))) (oc sI (o1 sB)) dec_Scaled), (40, sp (oc sI (o1 sL)) (o1 s1) act_value)], []⟩ 0 Try.f70 ((o1 sK).enc (op, l, ry, rm, rd_, rh, ri, rs)) = act_money.t (fun b => some (outOf (o1 s1) (some b))) (some .dies) act_word act_of dec_Scaled act_value op l ry rm rd_ rh ri rs := by kernel_rfl
noncomputable def act_money.F (a : (Int × List S27 × Mom)) : Option (Option (S27)) := act_money.t (fun b => some (some b)) (some none) act_word.F act_of.F dec_Scaled.F act_value.F a.1 a.2.1 a.2.2.1 a.2.2.2.1 a.2.2.2.2.1 a.2.2.2.2.2.1 a.2.2.2.2.2.2.1 a.2.2.2.2.2.2.2
theorem act_money.good : Good 70 (spd (o1 sK) (o1 s1) act_money.F) := good_treed _ _ _ (Ok.cons act_word.good (Ok.cons act_of.good (Ok.cons act_must.good (Ok.cons dec_Scaled.good (Ok.cons act_value.good Ok.nil))))) 0 (fn := Try.f70) (by kernel_rfl) (by kernel_rfl) (by kernel_rfl) fun a => (act_money.nat _ act_word.F act_of.F dec_Scaled.F act_value.F a.1 a.2.1 a.2.2.1 a.2.2.2.1 a.2.2.2.2.1 a.2.2.2.2.2.1 a.2.2.2.2.2.2.1 a.2.2.2.2.2.2.2).trans (act_money.run act_word.F act_of.F dec_Scaled.F act_value.F a.1 a.2.1 a.2.2.1 a.2.2.2.1 a.2.2.2.2.1 a.2.2.2.2.2.1 a.2.2.2.2.2.2.1 a.2.2.2.2.2.2.2).symm
noncomputable def act_duration.t {γ : Type} (K : (S27) → Option γ) (KD : Option γ) (act_count : ((Int × List S27 × Mom) × Int) → Option (Option (Int))) (act_word : ((Int × List S27 × Mom) × Int) → Option (Option (Int))) (act_value : (Int × List Int) → Option (S27)) (op : Int) (l : List S27) (ry rm rd_ rh ri rs : Int) : Option γ :=
  (act_count ((op, l, ry, rm, rd_, rh, ri, rs), 0)).bind fun t2 => om (t2) (KD) fun t3 => (act_word ((op, l, ry, rm, rd_, rh, ri, rs), 1)).bind fun t4 => om (t4) (KD) fun t5 => if t3 ≥ 0 then (if t5 ≥ 1 then (if t5 = 0 then none
        else if t3 ≤ wrap64 (Int.tdiv 9007199254740991 t5) then (act_value (9, [wrap64 (t3 * t5)])).bind fun t10 => K ⟨t10.f0, t10.f1⟩
         else KD)
       else KD)
      else KD
set_option maxRecDepth 100000 in
theorem act_duration.nat {γ : Type} (g : (Option (S27)) → Option γ) (act_count : ((Int × List S27 × Mom) × Int) → Option (Option (Int))) (act_word : ((Int × List S27 × Mom) × Int) → Option (Option (Int))) (act_value : (Int × List Int) → Option (S27)) (op : Int) (l : List S27) (ry rm rd_ rh ri rs : Int) : (act_duration.t (fun b => some (some b)) (some none) act_count act_word act_value op l ry rm rd_ rh ri rs).bind g = act_duration.t (fun b => g (some b)) (g none) act_count act_word act_value op l ry rm rd_ rh ri rs := by
  unfold act_duration.t
  repeat' first | exact rfl | refine nat_i ?_ ?_ | refine nat_b ?_ ?_ | refine nat_o (fun _ => ?_) | refine nat_m ?_ (fun _ => ?_)
set_option maxRecDepth 100000 in
theorem act_duration.run (act_count : ((Int × List S27 × Mom) × Int) → Option (Option (Int))) (act_word : ((Int × List S27 × Mom) × Int) → Option (Option (Int))) (act_value : (Int × List Int) → Option (S27)) (op : Int) (l : List S27) (ry rm rd_ rh ri rs : Int) : run ⟨[(92, spd (oc sK (o1 sI)) (o1 sI) act_count), (93, spd (oc sK (o1 sI)) (o1 sI) act_word), (39, spd (oc sB (o1 sI)) o0 act_must.F), (40, sp (oc sI (o1 sL)) (o1 s1) act_value)], []⟩ 0 Try.f71 ((o1 sK).enc (op, l, ry, rm, rd_, rh, ri, rs)) = act_duration.t (fun b => some (outOf (o1 s1) (some b))) (some .dies) act_count act_word act_value op l ry rm rd_ rh ri rs := by kernel_rfl
noncomputable def act_duration.F (a : (Int × List S27 × Mom)) : Option (Option (S27)) := act_duration.t (fun b => some (some b)) (some none) act_count.F act_word.F act_value.F a.1 a.2.1 a.2.2.1 a.2.2.2.1 a.2.2.2.2.1 a.2.2.2.2.2.1 a.2.2.2.2.2.2.1 a.2.2.2.2.2.2.2
theorem act_duration.good : Good 71 (spd (o1 sK) (o1 s1) act_duration.F) := good_treed _ _ _ (Ok.cons act_count.good (Ok.cons act_word.good (Ok.cons act_must.good (Ok.cons act_value.good Ok.nil)))) 0 (fn := Try.f71) (by kernel_rfl) (by kernel_rfl) (by kernel_rfl) fun a => (act_duration.nat _ act_count.F act_word.F act_value.F a.1 a.2.1 a.2.2.1 a.2.2.2.1 a.2.2.2.2.1 a.2.2.2.2.2.1 a.2.2.2.2.2.2.1 a.2.2.2.2.2.2.2).trans (act_duration.run act_count.F act_word.F act_value.F a.1 a.2.1 a.2.2.1 a.2.2.2.1 a.2.2.2.2.1 a.2.2.2.2.2.1 a.2.2.2.2.2.2.1 a.2.2.2.2.2.2.2).symm
noncomputable def act_sum.t {γ : Type} (K : (S27) → Option γ) (KD : Option γ) (act_of : ((Int × List S27 × Mom) × Int × Int) → Option (Option (List Int))) (act_value : (Int × List Int) → Option (S27)) (op : Int) (l : List S27) (ry rm rd_ rh ri rs : Int) : Option γ :=
  (act_of ((op, l, ry, rm, rd_, rh, ri, rs), 0, 9)).bind fun t2 => om (t2) (KD) fun t3 => if 0 < (↑t3.length : Int) then (act_of ((op, l, ry, rm, rd_, rh, ri, rs), 1, 9)).bind fun t5 => om (t5) (KD) fun t6 => if 0 < (↑t6.length : Int) then (act_value (9, [wrap64 (rd t3 0 + rd t6 0)])).bind fun t8 => K ⟨t8.f0, t8.f1⟩
       else none
    else none
set_option maxRecDepth 100000 in
theorem act_sum.nat {γ : Type} (g : (Option (S27)) → Option γ) (act_of : ((Int × List S27 × Mom) × Int × Int) → Option (Option (List Int))) (act_value : (Int × List Int) → Option (S27)) (op : Int) (l : List S27) (ry rm rd_ rh ri rs : Int) : (act_sum.t (fun b => some (some b)) (some none) act_of act_value op l ry rm rd_ rh ri rs).bind g = act_sum.t (fun b => g (some b)) (g none) act_of act_value op l ry rm rd_ rh ri rs := by
  unfold act_sum.t
  repeat' first | exact rfl | refine nat_i ?_ ?_ | refine nat_b ?_ ?_ | refine nat_o (fun _ => ?_) | refine nat_m ?_ (fun _ => ?_)
set_option maxRecDepth 100000 in
theorem act_sum.run (act_of : ((Int × List S27 × Mom) × Int × Int) → Option (Option (List Int))) (act_value : (Int × List Int) → Option (S27)) (op : Int) (l : List S27) (ry rm rd_ rh ri rs : Int) : run ⟨[(95, spd (oc sK (oc sI (o1 sI))) (o1 sL) act_of), (40, sp (oc sI (o1 sL)) (o1 s1) act_value)], []⟩ 0 Try.f72 ((o1 sK).enc (op, l, ry, rm, rd_, rh, ri, rs)) = act_sum.t (fun b => some (outOf (o1 s1) (some b))) (some .dies) act_of act_value op l ry rm rd_ rh ri rs := by kernel_rfl
noncomputable def act_sum.F (a : (Int × List S27 × Mom)) : Option (Option (S27)) := act_sum.t (fun b => some (some b)) (some none) act_of.F act_value.F a.1 a.2.1 a.2.2.1 a.2.2.2.1 a.2.2.2.2.1 a.2.2.2.2.2.1 a.2.2.2.2.2.2.1 a.2.2.2.2.2.2.2
theorem act_sum.good : Good 72 (spd (o1 sK) (o1 s1) act_sum.F) := good_treed _ _ _ (Ok.cons act_of.good (Ok.cons act_value.good Ok.nil)) 0 (fn := Try.f72) (by kernel_rfl) (by kernel_rfl) (by kernel_rfl) fun a => (act_sum.nat _ act_of.F act_value.F a.1 a.2.1 a.2.2.1 a.2.2.2.1 a.2.2.2.2.1 a.2.2.2.2.2.1 a.2.2.2.2.2.2.1 a.2.2.2.2.2.2.2).trans (act_sum.run act_of.F act_value.F a.1 a.2.1 a.2.2.1 a.2.2.2.1 a.2.2.2.2.1 a.2.2.2.2.2.1 a.2.2.2.2.2.2.1 a.2.2.2.2.2.2.2).symm
end Ev
end Go.Proofs.Ytldfljlklfhjkaa.PE
