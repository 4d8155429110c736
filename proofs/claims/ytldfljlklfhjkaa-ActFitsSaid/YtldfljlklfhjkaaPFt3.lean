/- Contracts that the evaluator tells: of each function its plain function (what its code comes to), and that each call answers so; written by a program of this session (wip/genev.py). Conditions: that the plain function answers. -/
import Derived.Test.YtldfljlklfhjkaaPFb2
namespace Go.Proofs.Ytldfljlklfhjkaa.PE
open Go.RowKit Go.Proofs.YtldfljlklfhjkaaW.PrintWords Go.Proofs.YtldfljlklfhjkaaW.PrintLast Go.Proofs.YtldfljlklfhjkaaW.PrintMore
set_option linter.unusedVariables false
set_option linter.unusedSimpArgs false
namespace Ev
noncomputable def ref8_more.t {γ : Type} (K : (S27 × Bool) → Option γ) (ref8_paid : (List S27) → Option (S27 × Bool)) (ref8_lasting : (List S27) → Option (S27 × Bool)) (ref8_both : (List S27 × Int × Int × Int) → Option (S27 × Bool)) (n0 : Int) (l1 : List S27) : Option γ :=
  if n0 = 11 then (if 0 < (↑l1.length : Int) then (if (rd_T27 l1 0).f0 = 7 then (if 0 < (↑l1.length : Int) then (if (↑(rd_T27 l1 0).f1.length : Int) = 2 then (if 0 < (↑l1.length : Int) then (if 0 < (↑(rd_T27 l1 0).f1.length : Int) then (if 0 < (↑l1.length : Int) then (if 1 < (↑(rd_T27 l1 0).f1.length : Int) then K ((⟨7, [wrap64 (0 - rd (rd_T27 l1 0).f1 0), rd (rd_T27 l1 0).f1 1]⟩, true))
          else none)
         else none)
        else none)
       else none)
      else K ((⟨0, []⟩, false)))
     else none)
    else K ((⟨0, []⟩, false)))
   else none)
  else if n0 = 12 then (ref8_paid l1).bind fun t4 => bm (t4.snd)
      (K ((⟨t4.fst.f0, t4.fst.f1⟩, true)))
      (K ((⟨t4.fst.f0, t4.fst.f1⟩, false)))
   else if n0 = 13 then (ref8_lasting l1).bind fun t5 => bm (t5.snd)
       (K ((⟨t5.fst.f0, t5.fst.f1⟩, true)))
       (K ((⟨t5.fst.f0, t5.fst.f1⟩, false)))
    else if n0 = 14 then (ref8_both (l1, 9, 9, 9)).bind fun t6 => bm (t6.snd)
        (if 0 < (↑t6.fst.f1.length : Int) then (if 1 < (↑t6.fst.f1.length : Int) then K ((⟨9, [wrap64 (rd t6.fst.f1 0 + rd t6.fst.f1 1)]⟩, true))
         else none)
        else none)
        (K ((⟨t6.fst.f0, t6.fst.f1⟩, false)))
     else if n0 = 15 then (ref8_both (l1, 4, 4, 10)).bind fun t7 => bm (t7.snd)
         (K ((⟨t7.fst.f0, t7.fst.f1⟩, true)))
         (K ((⟨t7.fst.f0, t7.fst.f1⟩, false)))
      else K ((⟨0, []⟩, false))
set_option maxRecDepth 100000 in
theorem ref8_more.nat {γ : Type} (g : (S27 × Bool) → Option γ) (ref8_paid : (List S27) → Option (S27 × Bool)) (ref8_lasting : (List S27) → Option (S27 × Bool)) (ref8_both : (List S27 × Int × Int × Int) → Option (S27 × Bool)) (n0 : Int) (l1 : List S27) : (ref8_more.t some ref8_paid ref8_lasting ref8_both n0 l1).bind g = ref8_more.t g ref8_paid ref8_lasting ref8_both n0 l1 := by
  unfold ref8_more.t
  repeat' first | exact rfl | refine nat_i ?_ ?_ | refine nat_b ?_ ?_ | refine nat_o (fun _ => ?_) | refine nat_m ?_ (fun _ => ?_)
set_option maxRecDepth 100000 in
theorem ref8_more.run (ref8_paid : (List S27) → Option (S27 × Bool)) (ref8_lasting : (List S27) → Option (S27 × Bool)) (ref8_both : (List S27 × Int × Int × Int) → Option (S27 × Bool)) (n0 : Int) (l1 : List S27) : run ⟨[(106, sp (o1 sV) (oc s1 (o1 sB)) ref8_paid), (107, sp (o1 sV) (oc s1 (o1 sB)) ref8_lasting), (77, sp (oc sV (oc sI (oc sI (o1 sI)))) (oc s1 (o1 sB)) ref8_both)], []⟩ 0 Try.f84 ((oc sI (o1 sV)).enc (n0, l1)) = ref8_more.t (fun b => some (.ret (packD ((oc s1 (o1 sB)).enc b)))) ref8_paid ref8_lasting ref8_both n0 l1 := by kernel_rfl
noncomputable def ref8_more.F (a : Int × List S27) : Option (S27 × Bool) := ref8_more.t some ref8_paid.F ref8_lasting.F ref8_both.F a.1 a.2
theorem ref8_more.good : Good 84 (sp (oc sI (o1 sV)) (oc s1 (o1 sB)) ref8_more.F) := good_tree _ _ _ (Ok.cons ref8_paid.good (Ok.cons ref8_lasting.good (Ok.cons ref8_both.good Ok.nil))) 0 (fn := Try.f84) (by kernel_rfl) (by kernel_rfl) (by kernel_rfl) fun a => (ref8_more.nat _ ref8_paid.F ref8_lasting.F ref8_both.F a.1 a.2).trans (ref8_more.run ref8_paid.F ref8_lasting.F ref8_both.F a.1 a.2).symm
noncomputable def ref8_made.t {γ : Type} (K : (S27 × Bool) → Option γ) (ref8_date : (List S27 × Mom) → Option (S27 × Bool)) (ref8_clock : (List S27) → Option (S27 × Bool)) (ref8_halved : (List S27) → Option (S27 × Bool)) (ref8_both : (List S27 × Int × Int × Int) → Option (S27 × Bool)) (ref8_moved : (List S27 × Mom) → Option (S27 × Bool)) (ref8_next : (List S27 × Mom) → Option (S27 × Bool)) (ref8_number : (S27) → Option (Int × Bool)) (ref8_whole : (Int × Int) → Option (S27)) (ref8_point : (List S27) → Option (S27 × Bool)) (ref8_group : (List S27) → Option (S27 × Bool)) (ref8_more : (Int × List S27) → Option (S27 × Bool)) (n0 : Int) (l1 : List S27) (yy2 mo2 dd2 hh2 mi2 ss2 : Int) : Option γ :=
  if n0 = 1 then (ref8_date (l1, yy2, mo2, dd2, hh2, mi2, ss2)).bind fun t3 => bm (t3.snd)
     (K ((⟨t3.fst.f0, t3.fst.f1⟩, true)))
     (K ((⟨t3.fst.f0, t3.fst.f1⟩, false)))
  else if n0 = 2 then (ref8_date (l1, yy2, mo2, dd2, hh2, mi2, ss2)).bind fun t4 => bm (t4.snd)
      (K ((⟨t4.fst.f0, t4.fst.f1⟩, true)))
      (K ((⟨t4.fst.f0, t4.fst.f1⟩, false)))
   else if n0 = 3 then (ref8_clock l1).bind fun t5 => bm (t5.snd)
       (K ((⟨t5.fst.f0, t5.fst.f1⟩, true)))
       (K ((⟨t5.fst.f0, t5.fst.f1⟩, false)))
    else if n0 = 4 then (ref8_halved l1).bind fun t6 => bm (t6.snd)
        (K ((⟨t6.fst.f0, t6.fst.f1⟩, true)))
        (K ((⟨t6.fst.f0, t6.fst.f1⟩, false)))
     else if n0 = 5 then (ref8_both (l1, 4, 5, 6)).bind fun t7 => bm (t7.snd)
         (K ((⟨t7.fst.f0, t7.fst.f1⟩, true)))
         (K ((⟨t7.fst.f0, t7.fst.f1⟩, false)))
      else if n0 = 6 then (ref8_moved (l1, yy2, mo2, dd2, hh2, mi2, ss2)).bind fun t8 => bm (t8.snd)
          (K ((⟨t8.fst.f0, t8.fst.f1⟩, true)))
          (K ((⟨t8.fst.f0, t8.fst.f1⟩, false)))
       else if n0 = 7 then (ref8_next (l1, yy2, mo2, dd2, hh2, mi2, ss2)).bind fun t9 => bm (t9.snd)
           (K ((⟨t9.fst.f0, t9.fst.f1⟩, true)))
           (K ((⟨t9.fst.f0, t9.fst.f1⟩, false)))
        else if n0 = 8 then (if 0 < (↑l1.length : Int) then (ref8_number { f0 := (rd_T27 l1 0).f0, f1 := (rd_T27 l1 0).f1 }).bind fun t11 => bm (t11.snd)
             ((ref8_whole (t11.fst, 0)).bind fun t13 => K ((⟨t13.f0, t13.f1⟩, true)))
             ((ref8_whole (t11.fst, 0)).bind fun t13 => K ((⟨t13.f0, t13.f1⟩, false)))
          else none)
         else if n0 = 9 then (ref8_point l1).bind fun t11 => bm (t11.snd)
             (K ((⟨t11.fst.f0, t11.fst.f1⟩, true)))
             (K ((⟨t11.fst.f0, t11.fst.f1⟩, false)))
          else if n0 = 10 then (ref8_group l1).bind fun t12 => bm (t12.snd)
              (K ((⟨t12.fst.f0, t12.fst.f1⟩, true)))
              (K ((⟨t12.fst.f0, t12.fst.f1⟩, false)))
           else (ref8_more (n0, l1)).bind fun t12 => bm (t12.snd)
              (K ((⟨t12.fst.f0, t12.fst.f1⟩, true)))
              (K ((⟨t12.fst.f0, t12.fst.f1⟩, false)))
set_option maxRecDepth 100000 in
theorem ref8_made.nat {γ : Type} (g : (S27 × Bool) → Option γ) (ref8_date : (List S27 × Mom) → Option (S27 × Bool)) (ref8_clock : (List S27) → Option (S27 × Bool)) (ref8_halved : (List S27) → Option (S27 × Bool)) (ref8_both : (List S27 × Int × Int × Int) → Option (S27 × Bool)) (ref8_moved : (List S27 × Mom) → Option (S27 × Bool)) (ref8_next : (List S27 × Mom) → Option (S27 × Bool)) (ref8_number : (S27) → Option (Int × Bool)) (ref8_whole : (Int × Int) → Option (S27)) (ref8_point : (List S27) → Option (S27 × Bool)) (ref8_group : (List S27) → Option (S27 × Bool)) (ref8_more : (Int × List S27) → Option (S27 × Bool)) (n0 : Int) (l1 : List S27) (yy2 mo2 dd2 hh2 mi2 ss2 : Int) : (ref8_made.t some ref8_date ref8_clock ref8_halved ref8_both ref8_moved ref8_next ref8_number ref8_whole ref8_point ref8_group ref8_more n0 l1 yy2 mo2 dd2 hh2 mi2 ss2).bind g = ref8_made.t g ref8_date ref8_clock ref8_halved ref8_both ref8_moved ref8_next ref8_number ref8_whole ref8_point ref8_group ref8_more n0 l1 yy2 mo2 dd2 hh2 mi2 ss2 := by
  unfold ref8_made.t
  repeat' first | exact rfl | refine nat_i ?_ ?_ | refine nat_b ?_ ?_ | refine nat_o (fun _ => ?_) | refine nat_m ?_ (fun _ => ?_)
set_option maxRecDepth 100000 in
theorem ref8_made.run (ref8_date : (List S27 × Mom) → Option (S27 × Bool)) (ref8_clock : (List S27) → Option (S27 × Bool)) (ref8_halved : (List S27) → Option (S27 × Bool)) (ref8_both : (List S27 × Int × Int × Int) → Option (S27 × Bool)) (ref8_moved : (List S27 × Mom) → Option (S27 × Bool)) (ref8_next : (List S27 × Mom) → Option (S27 × Bool)) (ref8_number : (S27) → Option (Int × Bool)) (ref8_whole : (Int × Int) → Option (S27)) (ref8_point : (List S27) → Option (S27 × Bool)) (ref8_group : (List S27) → Option (S27 × Bool)) (ref8_more : (Int × List S27) → Option (S27 × Bool)) (n0 : Int) (l1 : List S27) (yy2 mo2 dd2 hh2 mi2 ss2 : Int) : run ⟨[(74, sp (oc sV (o1 sM)) (oc s1 (o1 sB)) ref8_date), (75, sp (o1 sV) (oc s1 (o1 sB)) ref8_clock), (76, sp (o1 sV) (oc s1 (o1 sB)) ref8_halved), (77, sp (oc sV (oc sI (oc sI (o1 sI)))) (oc s1 (o1 sB)) ref8_both), (78, sp (oc sV (o1 sM)) (oc s1 (o1 sB)) ref8_moved), (79, sp (oc sV (o1 sM)) (oc s1 (o1 sB)) ref8_next), (80, sp (o1 s1) (oc sI (o1 sB)) ref8_number), (81, sp (oc sI (o1 sI)) (o1 s1) ref8_whole), (82, sp (o1 sV) (oc s1 (o1 sB)) ref8_point), (83, sp (o1 sV) (oc s1 (o1 sB)) ref8_group), (84, sp (oc sI (o1 sV)) (oc s1 (o1 sB)) ref8_more)], []⟩ 0 Try.f42 ((oc sI (oc sV (o1 sM))).enc (n0, l1, (yy2, mo2, dd2, hh2, mi2, ss2))) = ref8_made.t (fun b => some (.ret (packD ((oc s1 (o1 sB)).enc b)))) ref8_date ref8_clock ref8_halved ref8_both ref8_moved ref8_next ref8_number ref8_whole ref8_point ref8_group ref8_more n0 l1 yy2 mo2 dd2 hh2 mi2 ss2 := by kernel_rfl
noncomputable def ref8_made.F (a : Int × List S27 × Mom) : Option (S27 × Bool) := ref8_made.t some ref8_date.F ref8_clock.F ref8_halved.F ref8_both.F ref8_moved.F ref8_next.F ref8_number.F ref8_whole.F ref8_point.F ref8_group.F ref8_more.F a.1 a.2.1 a.2.2.1 a.2.2.2.1 a.2.2.2.2.1 a.2.2.2.2.2.1 a.2.2.2.2.2.2.1 a.2.2.2.2.2.2.2
theorem ref8_made.good : Good 42 (sp (oc sI (oc sV (o1 sM))) (oc s1 (o1 sB)) ref8_made.F) := good_tree _ _ _ (Ok.cons ref8_date.good (Ok.cons ref8_clock.good (Ok.cons ref8_halved.good (Ok.cons ref8_both.good (Ok.cons ref8_moved.good (Ok.cons ref8_next.good (Ok.cons ref8_number.good (Ok.cons ref8_whole.good (Ok.cons ref8_point.good (Ok.cons ref8_group.good (Ok.cons ref8_more.good Ok.nil))))))))))) 0 (fn := Try.f42) (by kernel_rfl) (by kernel_rfl) (by kernel_rfl) fun a => (ref8_made.nat _ ref8_date.F ref8_clock.F ref8_halved.F ref8_both.F ref8_moved.F ref8_next.F ref8_number.F ref8_whole.F ref8_point.F ref8_group.F ref8_more.F a.1 a.2.1 a.2.2.1 a.2.2.2.1 a.2.2.2.2.1 a.2.2.2.2.2.1 a.2.2.2.2.2.2.1 a.2.2.2.2.2.2.2).trans (ref8_made.run ref8_date.F ref8_clock.F ref8_halved.F ref8_both.F ref8_moved.F ref8_next.F ref8_number.F ref8_whole.F ref8_point.F ref8_group.F ref8_more.F a.1 a.2.1 a.2.2.1 a.2.2.2.1 a.2.2.2.2.1 a.2.2.2.2.2.1 a.2.2.2.2.2.2.1 a.2.2.2.2.2.2.2).symm
noncomputable def ref8_Do.t {γ : Type} (K : (S27 × Bool) → Option γ) (ref8_made : (Int × List S27 × Mom) → Option (S27 × Bool)) (ref8_Right : (S27) → Option (Bool)) (v0 : S27) (l1 : List S27) (yy2 mo2 dd2 hh2 mi2 ss2 : Int) : Option γ :=
  if 0 < (↑v0.f1.length : Int) then (if 0 < (↑v0.f1.length : Int) then (if 0 ≤ rd v0.f1 0 then (if rd v0.f1 0 < (↑l1.length : Int) then (if 1 < (↑v0.f1.length : Int) then (if 1 < (↑v0.f1.length : Int) then (if 0 ≤ rd v0.f1 1 then (if rd v0.f1 1 < (↑l1.length : Int) then (if 2 < (↑v0.f1.length : Int) then (if 2 < (↑v0.f1.length : Int) then (if 0 ≤ rd v0.f1 2 then (if rd v0.f1 2 < (↑l1.length : Int) then (if 3 < (↑v0.f1.length : Int) then (if 3 < (↑v0.f1.length : Int) then (if 0 ≤ rd v0.f1 3 then (if rd v0.f1 3 < (↑l1.length : Int) then (if 4 < (↑v0.f1.length : Int) then (if 4 < (↑v0.f1.length : Int) then (if 0 ≤ rd v0.f1 4 then (if rd v0.f1 4 < (↑l1.length : Int) then (if 5 < (↑v0.f1.length : Int) then (if 5 < (↑v0.f1.length : Int) then (if 0 ≤ rd v0.f1 5 then (if rd v0.f1 5 < (↑l1.length : Int) then (if 6 < (↑v0.f1.length : Int) then (if 6 < (↑v0.f1.length : Int) then (if 0 ≤ rd v0.f1 6 then (if rd v0.f1 6 < (↑l1.length : Int) then none
                             else none)
                            else none)
                           else none)
                          else if v0.f0 = 0 then (if 0 + (rd_T27 ([] ++ [{ f0 := (rd_T27 l1 (rd v0.f1 0)).f0, f1 := (rd_T27 l1 (rd v0.f1 0)).f1 }] ++ [{ f0 := (rd_T27 l1 (rd v0.f1 1)).f0, f1 := (rd_T27 l1 (rd v0.f1 1)).f1 }] ++ [{ f0 := (rd_T27 l1 (rd v0.f1 2)).f0, f1 := (rd_T27 l1 (rd v0.f1 2)).f1 }] ++ [{ f0 := (rd_T27 l1 (rd v0.f1 3)).f0, f1 := (rd_T27 l1 (rd v0.f1 3)).f1 }] ++ [{ f0 := (rd_T27 l1 (rd v0.f1 4)).f0, f1 := (rd_T27 l1 (rd v0.f1 4)).f1 }] ++ [{ f0 := (rd_T27 l1 (rd v0.f1 5)).f0, f1 := (rd_T27 l1 (rd v0.f1 5)).f1 }]) 0).f1.length ≤ 1000000 then K ((⟨(rd_T27 ([] ++ [{ f0 := (rd_T27 l1 (rd v0.f1 0)).f0, f1 := (rd_T27 l1 (rd v0.f1 0)).f1 }] ++ [{ f0 := (rd_T27 l1 (rd v0.f1 1)).f0, f1 := (rd_T27 l1 (rd v0.f1 1)).f1 }] ++ [{ f0 := (rd_T27 l1 (rd v0.f1 2)).f0, f1 := (rd_T27 l1 (rd v0.f1 2)).f1 }] ++ [{ f0 := (rd_T27 l1 (rd v0.f1 3)).f0, f1 := (rd_T27 l1 (rd v0.f1 3)).f1 }] ++ [{ f0 := (rd_T27 l1 (rd v0.f1 4)).f0, f1 := (rd_T27 l1 (rd v0.f1 4)).f1 }] ++ [{ f0 := (rd_T27 l1 (rd v0.f1 5)).f0, f1 := (rd_T27 l1 (rd v0.f1 5)).f1 }]) 0).f0, [] ++ (rd_T27 ([] ++ [{ f0 := (rd_T27 l1 (rd v0.f1 0)).f0, f1 := (rd_T27 l1 (rd v0.f1 0)).f1 }] ++ [{ f0 := (rd_T27 l1 (rd v0.f1 1)).f0, f1 := (rd_T27 l1 (rd v0.f1 1)).f1 }] ++ [{ f0 := (rd_T27 l1 (rd v0.f1 2)).f0, f1 := (rd_T27 l1 (rd v0.f1 2)).f1 }] ++ [{ f0 := (rd_T27 l1 (rd v0.f1 3)).f0, f1 := (rd_T27 l1 (rd v0.f1 3)).f1 }] ++ [{ f0 := (rd_T27 l1 (rd v0.f1 4)).f0, f1 := (rd_T27 l1 (rd v0.f1 4)).f1 }] ++ [{ f0 := (rd_T27 l1 (rd v0.f1 5)).f0, f1 := (rd_T27 l1 (rd v0.f1 5)).f1 }]) 0).f1⟩, true))
                            else none)
                           else (ref8_made (v0.f0, [] ++ [{ f0 := (rd_T27 l1 (rd v0.f1 0)).f0, f1 := (rd_T27 l1 (rd v0.f1 0)).f1 }] ++ [{ f0 := (rd_T27 l1 (rd v0.f1 1)).f0, f1 := (rd_T27 l1 (rd v0.f1 1)).f1 }] ++ [{ f0 := (rd_T27 l1 (rd v0.f1 2)).f0, f1 := (rd_T27 l1 (rd v0.f1 2)).f1 }] ++ [{ f0 := (rd_T27 l1 (rd v0.f1 3)).f0, f1 := (rd_T27 l1 (rd v0.f1 3)).f1 }] ++ [{ f0 := (rd_T27 l1 (rd v0.f1 4)).f0, f1 := (rd_T27 l1 (rd v0.f1 4)).f1 }] ++ [{ f0 := (rd_T27 l1 (rd v0.f1 5)).f0, f1 := (rd_T27 l1 (rd v0.f1 5)).f1 }], yy2, mo2, dd2, hh2, mi2, ss2)).bind fun t28 => bm (t28.snd)
                              ((ref8_Right { f0 := t28.fst.f0, f1 := t28.fst.f1 }).bind fun t30 => bm (t30)
                                (K ((⟨t28.fst.f0, t28.fst.f1⟩, true)))
                                (K ((⟨0, []⟩, false))))
                              (K ((⟨0, []⟩, false))))
                         else none)
                        else none)
                       else none)
                      else if v0.f0 = 0 then (if 0 + (rd_T27 ([] ++ [{ f0 := (rd_T27 l1 (rd v0.f1 0)).f0, f1 := (rd_T27 l1 (rd v0.f1 0)).f1 }] ++ [{ f0 := (rd_T27 l1 (rd v0.f1 1)).f0, f1 := (rd_T27 l1 (rd v0.f1 1)).f1 }] ++ [{ f0 := (rd_T27 l1 (rd v0.f1 2)).f0, f1 := (rd_T27 l1 (rd v0.f1 2)).f1 }] ++ [{ f0 := (rd_T27 l1 (rd v0.f1 3)).f0, f1 := (rd_T27 l1 (rd v0.f1 3)).f1 }] ++ [{ f0 := (rd_T27 l1 (rd v0.f1 4)).f0, f1 := (rd_T27 l1 (rd v0.f1 4)).f1 }]) 0).f1.length ≤ 1000000 then K ((⟨(rd_T27 ([] ++ [{ f0 := (rd_T27 l1 (rd v0.f1 0)).f0, f1 := (rd_T27 l1 (rd v0.f1 0)).f1 }] ++ [{ f0 := (rd_T27 l1 (rd v0.f1 1)).f0, f1 := (rd_T27 l1 (rd v0.f1 1)).f1 }] ++ [{ f0 := (rd_T27 l1 (rd v0.f1 2)).f0, f1 := (rd_T27 l1 (rd v0.f1 2)).f1 }] ++ [{ f0 := (rd_T27 l1 (rd v0.f1 3)).f0, f1 := (rd_T27 l1 (rd v0.f1 3)).f1 }] ++ [{ f0 := (rd_T27 l1 (rd v0.f1 4)).f0, f1 := (rd_T27 l1 (rd v0.f1 4)).f1 }]) 0).f0, [] ++ (rd_T27 ([] ++ [{ f0 := (rd_T27 l1 (rd v0.f1 0)).f0, f1 := (rd_T27 l1 (rd v0.f1 0)).f1 }] ++ [{ f0 := (rd_T27 l1 (rd v0.f1 1)).f0, f1 := (rd_T27 l1 (rd v0.f1 1)).f1 }] ++ [{ f0 := (rd_T27 l1 (rd v0.f1 2)).f0, f1 := (rd_T27 l1 (rd v0.f1 2)).f1 }] ++ [{ f0 := (rd_T27 l1 (rd v0.f1 3)).f0, f1 := (rd_T27 l1 (rd v0.f1 3)).f1 }] ++ [{ f0 := (rd_T27 l1 (rd v0.f1 4)).f0, f1 := (rd_T27 l1 (rd v0.f1 4)).f1 }]) 0).f1⟩, true))
                        else none)
                       else (ref8_made (v0.f0, [] ++ [{ f0 := (rd_T27 l1 (rd v0.f1 0)).f0, f1 := (rd_T27 l1 (rd v0.f1 0)).f1 }] ++ [{ f0 := (rd_T27 l1 (rd v0.f1 1)).f0, f1 := (rd_T27 l1 (rd v0.f1 1)).f1 }] ++ [{ f0 := (rd_T27 l1 (rd v0.f1 2)).f0, f1 := (rd_T27 l1 (rd v0.f1 2)).f1 }] ++ [{ f0 := (rd_T27 l1 (rd v0.f1 3)).f0, f1 := (rd_T27 l1 (rd v0.f1 3)).f1 }] ++ [{ f0 := (rd_T27 l1 (rd v0.f1 4)).f0, f1 := (rd_T27 l1 (rd v0.f1 4)).f1 }], yy2, mo2, dd2, hh2, mi2, ss2)).bind fun t24 => bm (t24.snd)
                          ((ref8_Right { f0 := t24.fst.f0, f1 := t24.fst.f1 }).bind fun t26 => bm (t26)
                            (K ((⟨t24.fst.f0, t24.fst.f1⟩, true)))
                            (K ((⟨0, []⟩, false))))
                          (K ((⟨0, []⟩, false))))
                     else none)
                    else none)
                   else none)
                  else if v0.f0 = 0 then (if 0 + (rd_T27 ([] ++ [{ f0 := (rd_T27 l1 (rd v0.f1 0)).f0, f1 := (rd_T27 l1 (rd v0.f1 0)).f1 }] ++ [{ f0 := (rd_T27 l1 (rd v0.f1 1)).f0, f1 := (rd_T27 l1 (rd v0.f1 1)).f1 }] ++ [{ f0 := (rd_T27 l1 (rd v0.f1 2)).f0, f1 := (rd_T27 l1 (rd v0.f1 2)).f1 }] ++ [{ f0 := (rd_T27 l1 (rd v0.f1 3)).f0, f1 := (rd_T27 l1 (rd v0.f1 3)).f1 }]) 0).f1.length ≤ 1000000 then K ((⟨(rd_T27 ([] ++ [{ f0 := (rd_T27 l1 (rd v0.f1 0)).f0, f1 := (rd_T27 l1 (rd v0.f1 0)).f1 }] ++ [{ f0 := (rd_T27 l1 (rd v0.f1 1)).f0, f1 := (rd_T27 l1 (rd v0.f1 1)).f1 }] ++ [{ f0 := (rd_T27 l1 (rd v0.f1 2)).f0, f1 := (rd_T27 l1 (rd v0.f1 2)).f1 }] ++ [{ f0 := (rd_T27 l1 (rd v0.f1 3)).f0, f1 := (rd_T27 l1 (rd v0.f1 3)).f1 }]) 0).f0, [] ++ (rd_T27 ([] ++ [{ f0 := (rd_T27 l1 (rd v0.f1 0)).f0, f1 := (rd_T27 l1 (rd v0.f1 0)).f1 }] ++ [{ f0 := (rd_T27 l1 (rd v0.f1 1)).f0, f1 := (rd_T27 l1 (rd v0.f1 1)).f1 }] ++ [{ f0 := (rd_T27 l1 (rd v0.f1 2)).f0, f1 := (rd_T27 l1 (rd v0.f1 2)).f1 }] ++ [{ f0 := (rd_T27 l1 (rd v0.f1 3)).f0, f1 := (rd_T27 l1 (rd v0.f1 3)).f1 }]) 0).f1⟩, true))
                    else none)
                   else (ref8_made (v0.f0, [] ++ [{ f0 := (rd_T27 l1 (rd v0.f1 0)).f0, f1 := (rd_T27 l1 (rd v0.f1 0)).f1 }] ++ [{ f0 := (rd_T27 l1 (rd v0.f1 1)).f0, f1 := (rd_T27 l1 (rd v0.f1 1)).f1 }] ++ [{ f0 := (rd_T27 l1 (rd v0.f1 2)).f0, f1 := (rd_T27 l1 (rd v0.f1 2)).f1 }] ++ [{ f0 := (rd_T27 l1 (rd v0.f1 3)).f0, f1 := (rd_T27 l1 (rd v0.f1 3)).f1 }], yy2, mo2, dd2, hh2, mi2, ss2)).bind fun t20 => bm (t20.snd)
                      ((ref8_Right { f0 := t20.fst.f0, f1 := t20.fst.f1 }).bind fun t22 => bm (t22)
                        (K ((⟨t20.fst.f0, t20.fst.f1⟩, true)))
                        (K ((⟨0, []⟩, false))))
                      (K ((⟨0, []⟩, false))))
                 else none)
                else none)
               else none)
              else if v0.f0 = 0 then (if 0 + (rd_T27 ([] ++ [{ f0 := (rd_T27 l1 (rd v0.f1 0)).f0, f1 := (rd_T27 l1 (rd v0.f1 0)).f1 }] ++ [{ f0 := (rd_T27 l1 (rd v0.f1 1)).f0, f1 := (rd_T27 l1 (rd v0.f1 1)).f1 }] ++ [{ f0 := (rd_T27 l1 (rd v0.f1 2)).f0, f1 := (rd_T27 l1 (rd v0.f1 2)).f1 }]) 0).f1.length ≤ 1000000 then K ((⟨(rd_T27 ([] ++ [{ f0 := (rd_T27 l1 (rd v0.f1 0)).f0, f1 := (rd_T27 l1 (rd v0.f1 0)).f1 }] ++ [{ f0 := (rd_T27 l1 (rd v0.f1 1)).f0, f1 := (rd_T27 l1 (rd v0.f1 1)).f1 }] ++ [{ f0 := (rd_T27 l1 (rd v0.f1 2)).f0, f1 := (rd_T27 l1 (rd v0.f1 2)).f1 }]) 0).f0, [] ++ (rd_T27 ([] ++ [{ f0 := (rd_T27 l1 (rd v0.f1 0)).f0, f1 := (rd_T27 l1 (rd v0.f1 0)).f1 }] ++ [{ f0 := (rd_T27 l1 (rd v0.f1 1)).f0, f1 := (rd_T27 l1 (rd v0.f1 1)).f1 }] ++ [{ f0 := (rd_T27 l1 (rd v0.f1 2)).f0, f1 := (rd_T27 l1 (rd v0.f1 2)).f1 }]) 0).f1⟩, true))
                else none)
               else (ref8_made (v0.f0, [] ++ [{ f0 := (rd_T27 l1 (rd v0.f1 0)).f0, f1 := (rd_T27 l1 (rd v0.f1 0)).f1 }] ++ [{ f0 := (rd_T27 l1 (rd v0.f1 1)).f0, f1 := (rd_T27 l1 (rd v0.f1 1)).f1 }] ++ [{ f0 := (rd_T27 l1 (rd v0.f1 2)).f0, f1 := (rd_T27 l1 (rd v0.f1 2)).f1 }], yy2, mo2, dd2, hh2, mi2, ss2)).bind fun t16 => bm (t16.snd)
                  ((ref8_Right { f0 := t16.fst.f0, f1 := t16.fst.f1 }).bind fun t18 => bm (t18)
                    (K ((⟨t16.fst.f0, t16.fst.f1⟩, true)))
                    (K ((⟨0, []⟩, false))))
                  (K ((⟨0, []⟩, false))))
             else none)
            else none)
           else none)
          else if v0.f0 = 0 then (if 0 + (rd_T27 ([] ++ [{ f0 := (rd_T27 l1 (rd v0.f1 0)).f0, f1 := (rd_T27 l1 (rd v0.f1 0)).f1 }] ++ [{ f0 := (rd_T27 l1 (rd v0.f1 1)).f0, f1 := (rd_T27 l1 (rd v0.f1 1)).f1 }]) 0).f1.length ≤ 1000000 then K ((⟨(rd_T27 ([] ++ [{ f0 := (rd_T27 l1 (rd v0.f1 0)).f0, f1 := (rd_T27 l1 (rd v0.f1 0)).f1 }] ++ [{ f0 := (rd_T27 l1 (rd v0.f1 1)).f0, f1 := (rd_T27 l1 (rd v0.f1 1)).f1 }]) 0).f0, [] ++ (rd_T27 ([] ++ [{ f0 := (rd_T27 l1 (rd v0.f1 0)).f0, f1 := (rd_T27 l1 (rd v0.f1 0)).f1 }] ++ [{ f0 := (rd_T27 l1 (rd v0.f1 1)).f0, f1 := (rd_T27 l1 (rd v0.f1 1)).f1 }]) 0).f1⟩, true))
            else none)
           else (ref8_made (v0.f0, [] ++ [{ f0 := (rd_T27 l1 (rd v0.f1 0)).f0, f1 := (rd_T27 l1 (rd v0.f1 0)).f1 }] ++ [{ f0 := (rd_T27 l1 (rd v0.f1 1)).f0, f1 := (rd_T27 l1 (rd v0.f1 1)).f1 }], yy2, mo2, dd2, hh2, mi2, ss2)).bind fun t12 => bm (t12.snd)
              ((ref8_Right { f0 := t12.fst.f0, f1 := t12.fst.f1 }).bind fun t14 => bm (t14)
                (K ((⟨t12.fst.f0, t12.fst.f1⟩, true)))
                (K ((⟨0, []⟩, false))))
              (K ((⟨0, []⟩, false))))
         else none)
        else none)
       else none)
      else if v0.f0 = 0 then (if 0 + (rd_T27 ([] ++ [{ f0 := (rd_T27 l1 (rd v0.f1 0)).f0, f1 := (rd_T27 l1 (rd v0.f1 0)).f1 }]) 0).f1.length ≤ 1000000 then K ((⟨(rd_T27 ([] ++ [{ f0 := (rd_T27 l1 (rd v0.f1 0)).f0, f1 := (rd_T27 l1 (rd v0.f1 0)).f1 }]) 0).f0, [] ++ (rd_T27 ([] ++ [{ f0 := (rd_T27 l1 (rd v0.f1 0)).f0, f1 := (rd_T27 l1 (rd v0.f1 0)).f1 }]) 0).f1⟩, true))
        else none)
       else (ref8_made (v0.f0, [] ++ [{ f0 := (rd_T27 l1 (rd v0.f1 0)).f0, f1 := (rd_T27 l1 (rd v0.f1 0)).f1 }], yy2, mo2, dd2, hh2, mi2, ss2)).bind fun t8 => bm (t8.snd)
          ((ref8_Right { f0 := t8.fst.f0, f1 := t8.fst.f1 }).bind fun t10 => bm (t10)
            (K ((⟨t8.fst.f0, t8.fst.f1⟩, true)))
            (K ((⟨0, []⟩, false))))
          (K ((⟨0, []⟩, false))))
     else none)
    else none)
   else none)
  else if v0.f0 = 0 then none
   else none
set_option maxRecDepth 100000 in
theorem ref8_Do.nat {γ : Type} (g : (S27 × Bool) → Option γ) (ref8_made : (Int × List S27 × Mom) → Option (S27 × Bool)) (ref8_Right : (S27) → Option (Bool)) (v0 : S27) (l1 : List S27) (yy2 mo2 dd2 hh2 mi2 ss2 : Int) : (ref8_Do.t some ref8_made ref8_Right v0 l1 yy2 mo2 dd2 hh2 mi2 ss2).bind g = ref8_Do.t g ref8_made ref8_Right v0 l1 yy2 mo2 dd2 hh2 mi2 ss2 := by
  unfold ref8_Do.t
  repeat' first | exact rfl | refine nat_i ?_ ?_ | refine nat_b ?_ ?_ | refine nat_o (fun _ => ?_) | refine nat_m ?_ (fun _ => ?_)
set_option maxRecDepth 100000 in
theorem ref8_Do.run (ref8_made : (Int × List S27 × Mom) → Option (S27 × Bool)) (ref8_Right : (S27) → Option (Bool)) (v0 : S27) (l1 : List S27) (yy2 mo2 dd2 hh2 mi2 ss2 : Int) : run ⟨[(42, sp (oc sI (oc sV (o1 sM))) (oc s1 (o1 sB)) ref8_made), (29, sp (o1 s1) (o1 sB) ref8_Right)], [29]⟩ 7 Try.f23 ((oc s1 (oc sV (o1 sM))).enc (v0, l1, (yy2, mo2, dd2, hh2, mi2, ss2))) = ref8_Do.t (fun b => some (.ret (packD ((oc s1 (o1 sB)).enc b)))) ref8_made ref8_Right v0 l1 yy2 mo2 dd2 hh2 mi2 ss2 := by kernel_rfl
noncomputable def ref8_Do.F (a : S27 × List S27 × Mom) : Option (S27 × Bool) := ref8_Do.t some ref8_made.F ref8_Right.F a.1 a.2.1 a.2.2.1 a.2.2.2.1 a.2.2.2.2.1 a.2.2.2.2.2.1 a.2.2.2.2.2.2.1 a.2.2.2.2.2.2.2
theorem ref8_Do.good : Good 23 (sp (oc s1 (oc sV (o1 sM))) (oc s1 (o1 sB)) ref8_Do.F) := good_tree _ _ _ (Ok.cons ref8_made.good (Ok.cons ref8_Right.good Ok.nil)) 7 (fn := Try.f23) (by kernel_rfl) (by kernel_rfl) (by kernel_rfl) fun a => (ref8_Do.nat _ ref8_made.F ref8_Right.F a.1 a.2.1 a.2.2.1 a.2.2.2.1 a.2.2.2.2.1 a.2.2.2.2.2.1 a.2.2.2.2.2.2.1 a.2.2.2.2.2.2.2).trans (ref8_Do.run ref8_made.F ref8_Right.F a.1 a.2.1 a.2.2.1 a.2.2.2.1 a.2.2.2.2.1 a.2.2.2.2.2.1 a.2.2.2.2.2.2.1 a.2.2.2.2.2.2.2).symm
noncomputable def ref10_order.t {γ : Type} (K : (Int) → Option γ)  (n0 : Int) (n1 : Int) : Option γ :=
  if n0 < n1 then K (-1)
  else if n0 > n1 then K 1
   else K 0
set_option maxRecDepth 100000 in
theorem ref10_order.nat {γ : Type} (g : (Int) → Option γ)  (n0 : Int) (n1 : Int) : (ref10_order.t some n0 n1).bind g = ref10_order.t g n0 n1 := by
  unfold ref10_order.t
  repeat' first | exact rfl | refine nat_i ?_ ?_ | refine nat_b ?_ ?_ | refine nat_o (fun _ => ?_) | refine nat_m ?_ (fun _ => ?_)
set_option maxRecDepth 100000 in
theorem ref10_order.run  (n0 : Int) (n1 : Int) : run ⟨[], []⟩ 0 Try.f43 ((oc sI (o1 sI)).enc (n0, n1)) = ref10_order.t (fun b => some (.ret (packD ((o1 sI).enc b)))) n0 n1 := by kernel_rfl
noncomputable def ref10_order.F (a : Int × Int) : Option (Int) := ref10_order.t some a.1 a.2
theorem ref10_order.good : Good 43 (sp (oc sI (o1 sI)) (o1 sI) ref10_order.F) := good_tree _ _ _ Ok.nil 0 (fn := Try.f43) (by kernel_rfl) (by kernel_rfl) (by kernel_rfl) fun a => (ref10_order.nat _ a.1 a.2).trans (ref10_order.run a.1 a.2).symm
noncomputable def ref10_Cmp.t {γ : Type} (K : (Int) → Option γ) (ref10_order : (Int × Int) → Option (Int)) (v0 : S27) (v1 : S27) : Option γ :=
  (ref10_order (v0.f0, v1.f0)).bind fun t2 => if t2 = 0 then (ref10_order ((↑v0.f1.length : Int), (↑v1.f1.length : Int))).bind fun t4 => if t4 = 0 then (if 0 < (↑v0.f1.length : Int) then (if 0 < (↑v0.f1.length : Int) then (if 0 < (↑v1.f1.length : Int) then (ref10_order (rd v0.f1 0, rd v1.f1 0)).bind fun t9 => if t9 = 0 then (if 1 < (↑v0.f1.length : Int) then (if 1 < (↑v0.f1.length : Int) then (if 1 < (↑v1.f1.length : Int) then (ref10_order (rd v0.f1 1, rd v1.f1 1)).bind fun t14 => if t14 = 0 then (if 2 < (↑v0.f1.length : Int) then (if 2 < (↑v0.f1.length : Int) then (if 2 < (↑v1.f1.length : Int) then (ref10_order (rd v0.f1 2, rd v1.f1 2)).bind fun t19 => if t19 = 0 then (if 3 < (↑v0.f1.length : Int) then (if 3 < (↑v0.f1.length : Int) then (if 3 < (↑v1.f1.length : Int) then (ref10_order (rd v0.f1 3, rd v1.f1 3)).bind fun t24 => if t24 = 0 then (if 4 < (↑v0.f1.length : Int) then (if 4 < (↑v0.f1.length : Int) then (if 4 < (↑v1.f1.length : Int) then (ref10_order (rd v0.f1 4, rd v1.f1 4)).bind fun t29 => if t29 = 0 then (if 5 < (↑v0.f1.length : Int) then (if 5 < (↑v0.f1.length : Int) then (if 5 < (↑v1.f1.length : Int) then (ref10_order (rd v0.f1 5, rd v1.f1 5)).bind fun t34 => if t34 = 0 then (if 6 < (↑v0.f1.length : Int) then (if 6 < (↑v0.f1.length : Int) then (if 6 < (↑v1.f1.length : Int) then (ref10_order (rd v0.f1 6, rd v1.f1 6)).bind fun t39 => if t39 = 0 then (if 7 < (↑v0.f1.length : Int) then (if 7 < (↑v0.f1.length : Int) then (if 7 < (↑v1.f1.length : Int) then (ref10_order (rd v0.f1 7, rd v1.f1 7)).bind fun t44 => if t44 = 0 then none
                                             else K t44
                                           else none)
                                          else none)
                                         else K 0)
                                        else K t39
                                      else none)
                                     else none)
                                    else K 0)
                                   else K t34
                                 else none)
                                else none)
                               else K 0)
                              else K t29
                            else none)
                           else none)
                          else K 0)
                         else K t24
                       else none)
                      else none)
                     else K 0)
                    else K t19
                  else none)
                 else none)
                else K 0)
               else K t14
             else none)
            else none)
           else K 0)
          else K t9
        else none)
       else none)
      else K 0)
     else K t4
   else K t2
set_option maxRecDepth 100000 in
theorem ref10_Cmp.nat {γ : Type} (g : (Int) → Option γ) (ref10_order : (Int × Int) → Option (Int)) (v0 : S27) (v1 : S27) : (ref10_Cmp.t some ref10_order v0 v1).bind g = ref10_Cmp.t g ref10_order v0 v1 := by
  unfold ref10_Cmp.t
  repeat' first | exact rfl | refine nat_i ?_ ?_ | refine nat_b ?_ ?_ | refine nat_o (fun _ => ?_) | refine nat_m ?_ (fun _ => ?_)
set_option maxRecDepth 100000 in
theorem ref10_Cmp.run (ref10_order : (Int × Int) → Option (Int)) (v0 : S27) (v1 : S27) : run ⟨[(43, sp (oc sI (o1 sI)) (o1 sI) ref10_order)], []⟩ 8 Try.f24 ((oc s1 (o1 s1)).enc (v0, v1)) = ref10_Cmp.t (fun b => some (.ret (packD ((o1 sI).enc b)))) ref10_order v0 v1 := by kernel_rfl
noncomputable def ref10_Cmp.F (a : S27 × S27) : Option (Int) := ref10_Cmp.t some ref10_order.F a.1 a.2
theorem ref10_Cmp.good : Good 24 (sp (oc s1 (o1 s1)) (o1 sI) ref10_Cmp.F) := good_tree _ _ _ (Ok.cons ref10_order.good Ok.nil) 8 (fn := Try.f24) (by kernel_rfl) (by kernel_rfl) (by kernel_rfl) fun a => (ref10_Cmp.nat _ ref10_order.F a.1 a.2).trans (ref10_Cmp.run ref10_order.F a.1 a.2).symm
noncomputable def law8_Ref.t {γ : Type} (K : (Mom) → Option γ) (law1_Day : (Int × Bool) → Option (Int × Int × Int)) (law8_within : (Int × Int) → Option (Int)) (n0 : Int) : Option γ :=
  (law1_Day (n0, false)).bind fun t2 => (law8_within (wrap64 (n0.tdiv 7), 24)).bind fun t3 => (law8_within (wrap64 (n0.tdiv 11), 60)).bind fun t4 => (law8_within (wrap64 (n0.tdiv 13), 60)).bind fun t5 => K ⟨t2.fst, t2.snd.fst, t2.snd.snd, t3, t4, t5⟩
set_option maxRecDepth 100000 in
theorem law8_Ref.nat {γ : Type} (g : (Mom) → Option γ) (law1_Day : (Int × Bool) → Option (Int × Int × Int)) (law8_within : (Int × Int) → Option (Int)) (n0 : Int) : (law8_Ref.t some law1_Day law8_within n0).bind g = law8_Ref.t g law1_Day law8_within n0 := by
  unfold law8_Ref.t
  repeat' first | exact rfl | refine nat_i ?_ ?_ | refine nat_b ?_ ?_ | refine nat_o (fun _ => ?_) | refine nat_m ?_ (fun _ => ?_)
set_option maxRecDepth 100000 in
theorem law8_Ref.run (law1_Day : (Int × Bool) → Option (Int × Int × Int)) (law8_within : (Int × Int) → Option (Int)) (n0 : Int) : run ⟨[(37, sp (oc sI (o1 sB)) (oc sI (oc sI (o1 sI))) law1_Day), (18, sp (oc sI (o1 sI)) (o1 sI) law8_within)], []⟩ 0 Try.f21 ((o1 sI).enc n0) = law8_Ref.t (fun b => some (.ret (packD ((o1 sM).enc b)))) law1_Day law8_within n0 := by kernel_rfl
noncomputable def law8_Ref.F (a : Int) : Option (Mom) := law8_Ref.t some interlocutorlaw1_Day.F interlocutorlaw8_within.F a
theorem law8_Ref.good : Good 21 (sp (o1 sI) (o1 sM) law8_Ref.F) := good_tree _ _ _ (Ok.cons interlocutorlaw1_Day.good (Ok.cons interlocutorlaw8_within.good Ok.nil)) 0 (fn := Try.f21) (by kernel_rfl) (by kernel_rfl) (by kernel_rfl) fun a => (law8_Ref.nat _ interlocutorlaw1_Day.F interlocutorlaw8_within.F a).trans (law8_Ref.run interlocutorlaw1_Day.F interlocutorlaw8_within.F a).symm
noncomputable def law8_Value.t {γ : Type} (K : (S27) → Option γ) (law1_Day : (Int × Bool) → Option (Int × Int × Int)) (law8_within : (Int × Int) → Option (Int)) (law2_Make : (Int × Int) → Option (Int × Int)) (ref1_Days : (Int × Int × Int) → Option (Int)) (n0 : Int) (n1 : Int) (n2 : Int) : Option γ :=
  (law1_Day (n1, false)).bind fun t2 => (law1_Day (n2, false)).bind fun t3 => (law8_within (n0, 7)).bind fun t4 => if wrap64 (4 + t4) = 4 then K ⟨wrap64 (4 + t4), [t2.fst, t2.snd.fst, t2.snd.snd]⟩
     else if wrap64 (4 + t4) = 5 then (law8_within (n1, 24)).bind fun t7 => (law8_within (n2, 60)).bind fun t8 => (law8_within (wrap64 (n1.tdiv 24), 60)).bind fun t9 => K ⟨wrap64 (4 + t4), [t7, t8, t9]⟩
      else if wrap64 (4 + t4) = 6 then (law8_within (n2, 24)).bind fun t8 => (law8_within (wrap64 (n2.tdiv 24), 60)).bind fun t9 => (law8_within (wrap64 (n2.tdiv 1440), 60)).bind fun t10 => K ⟨wrap64 (4 + t4), [t2.fst, t2.snd.fst, t2.snd.snd, t8, t9, t10]⟩
       else if wrap64 (4 + t4) = 7 then (law2_Make (n1, n2)).bind fun t9 => if t9.snd > 0 then (if t9.fst.tmod 10 = 0 then (if wrap64 (t9.snd - 1) > 0 then (if (wrap64 (t9.fst.tdiv 10)).tmod 10 = 0 then (if wrap64 (wrap64 (t9.snd - 1) - 1) > 0 then (if (wrap64 ((wrap64 (t9.fst.tdiv 10)).tdiv 10)).tmod 10 = 0 then (if wrap64 (wrap64 (wrap64 (t9.snd - 1) - 1) - 1) > 0 then (if (wrap64 ((wrap64 ((wrap64 (t9.fst.tdiv 10)).tdiv 10)).tdiv 10)).tmod 10 = 0 then (if wrap64 (wrap64 (wrap64 (wrap64 (t9.snd - 1) - 1) - 1) - 1) > 0 then (if (wrap64 ((wrap64 ((wrap64 ((wrap64 (t9.fst.tdiv 10)).tdiv 10)).tdiv 10)).tdiv 10)).tmod 10 = 0 then (if wrap64 (wrap64 (wrap64 (wrap64 (wrap64 (t9.snd - 1) - 1) - 1) - 1) - 1) > 0 then (if (wrap64 ((wrap64 ((wrap64 ((wrap64 ((wrap64 (t9.fst.tdiv 10)).tdiv 10)).tdiv 10)).tdiv 10)).tdiv 10)).tmod 10 = 0 then (if wrap64 (wrap64 (wrap64 (wrap64 (wrap64 (wrap64 (t9.snd - 1) - 1) - 1) - 1) - 1) - 1) > 0 then (if (wrap64 ((wrap64 ((wrap64 ((wrap64 ((wrap64 ((wrap64 (t9.fst.tdiv 10)).tdiv 10)).tdiv 10)).tdiv 10)).tdiv 10)).tdiv 10)).tmod 10 = 0 then (if wrap64 (wrap64 (wrap64 (wrap64 (wrap64 (wrap64 (wrap64 (t9.snd - 1) - 1) - 1) - 1) - 1) - 1) - 1) > 0 then (if (wrap64 ((wrap64 ((wrap64 ((wrap64 ((wrap64 ((wrap64 ((wrap64 (t9.fst.tdiv 10)).tdiv 10)).tdiv 10)).tdiv 10)).tdiv 10)).tdiv 10)).tdiv 10)).tmod 10 = 0 then (if wrap64 (wrap64 (wrap64 (wrap64 (wrap64 (wrap64 (wrap64 (wrap64 (t9.snd - 1) - 1) - 1) - 1) - 1) - 1) - 1) - 1) > 0 then (if (wrap64 ((wrap64 ((wrap64 ((wrap64 ((wrap64 ((wrap64 ((wrap64 ((wrap64 (t9.fst.tdiv 10)).tdiv 10)).tdiv 10)).tdiv 10)).tdiv 10)).tdiv 10)).tdiv 10)).tdiv 10)).tmod 10 = 0 then (if wrap64 (wrap64 (wrap64 (wrap64 (wrap64 (wrap64 (wrap64 (wrap64 (wrap64 (t9.snd - 1) - 1) - 1) - 1) - 1) - 1) - 1) - 1) - 1) > 0 then (if (wrap64 ((wrap64 ((wrap64 ((wrap64 ((wrap64 ((wrap64 ((wrap64 ((wrap64 ((wrap64 (t9.fst.tdiv 10)).tdiv 10)).tdiv 10)).tdiv 10)).tdiv 10)).tdiv 10)).tdiv 10)).tdiv 10)).tdiv 10)).tmod 10 = 0 then (if wrap64 (wrap64 (wrap64 (wrap64 (wrap64 (wrap64 (wrap64 (wrap64 (wrap64 (wrap64 (t9.snd - 1) - 1) - 1) - 1) - 1) - 1) - 1) - 1) - 1) - 1) > 0 then (if (wrap64 ((wrap64 ((wrap64 ((wrap64 ((wrap64 ((wrap64 ((wrap64 ((wrap64 ((wrap64 ((wrap64 (t9.fst.tdiv 10)).tdiv 10)).tdiv 10)).tdiv 10)).tdiv 10)).tdiv 10)).tdiv 10)).tdiv 10)).tdiv 10)).tdiv 10)).tmod 10 = 0 then (if wrap64 (wrap64 (wrap64 (wrap64 (wrap64 (wrap64 (wrap64 (wrap64 (wrap64 (wrap64 (wrap64 (t9.snd - 1) - 1) - 1) - 1) - 1) - 1) - 1) - 1) - 1) - 1) - 1) > 0 then (if (wrap64 ((wrap64 ((wrap64 ((wrap64 ((wrap64 ((wrap64 ((wrap64 ((wrap64 ((wrap64 ((wrap64 ((wrap64 (t9.fst.tdiv 10)).tdiv 10)).tdiv 10)).tdiv 10)).tdiv 10)).tdiv 10)).tdiv 10)).tdiv 10)).tdiv 10)).tdiv 10)).tdiv 10)).tmod 10 = 0 then (if wrap64 (wrap64 (wrap64 (wrap64 (wrap64 (wrap64 (wrap64 (wrap64 (wrap64 (wrap64 (wrap64 (wrap64 (t9.snd - 1) - 1) - 1) - 1) - 1) - 1) - 1) - 1) - 1) - 1) - 1) - 1) > 0 then (if (wrap64 ((wrap64 ((wrap64 ((wrap64 ((wrap64 ((wrap64 ((wrap64 ((wrap64 ((wrap64 ((wrap64 ((wrap64 ((wrap64 (t9.fst.tdiv 10)).tdiv 10)).tdiv 10)).tdiv 10)).tdiv 10)).tdiv 10)).tdiv 10)).tdiv 10)).tdiv 10)).tdiv 10)).tdiv 10)).tdiv 10)).tmod 10 = 0 then (if wrap64 (wrap64 (wrap64 (wrap64 (wrap64 (wrap64 (wrap64 (wrap64 (wrap64 (wrap64 (wrap64 (wrap64 (wrap64 (t9.snd - 1) - 1) - 1) - 1) - 1) - 1) - 1) - 1) - 1) - 1) - 1) - 1) - 1) > 0 then (if (wrap64 ((wrap64 ((wrap64 ((wrap64 ((wrap64 ((wrap64 ((wrap64 ((wrap64 ((wrap64 ((wrap64 ((wrap64 ((wrap64 ((wrap64 (t9.fst.tdiv 10)).tdiv 10)).tdiv 10)).tdiv 10)).tdiv 10)).tdiv 10)).tdiv 10)).tdiv 10)).tdiv 10)).tdiv 10)).tdiv 10)).tdiv 10)).tdiv 10)).tmod 10 = 0 then (if wrap64 (wrap64 (wrap64 (wrap64 (wrap64 (wrap64 (wrap64 (wrap64 (wrap64 (wrap64 (wrap64 (wrap64 (wrap64 (wrap64 (t9.snd - 1) - 1) - 1) - 1) - 1) - 1) - 1) - 1) - 1) - 1) - 1) - 1) - 1) - 1) > 0 then (if (wrap64 ((wrap64 ((wrap64 ((wrap64 ((wrap64 ((wrap64 ((wrap64 ((wrap64 ((wrap64 ((wrap64 ((wrap64 ((wrap64 ((wrap64 ((wrap64 (t9.fst.tdiv 10)).tdiv 10)).tdiv 10)).tdiv 10)).tdiv 10)).tdiv 10)).tdiv 10)).tdiv 10)).tdiv 10)).tdiv 10)).tdiv 10)).tdiv 10)).tdiv 10)).tdiv 10)).tmod 10 = 0 then (if wrap64 (wrap64 (wrap64 (wrap64 (wrap64 (wrap64 (wrap64 (wrap64 (wrap64 (wrap64 (wrap64 (wrap64 (wrap64 (wrap64 (wrap64 (t9.snd - 1) - 1) - 1) - 1) - 1) - 1) - 1) - 1) - 1) - 1) - 1) - 1) - 1) - 1) - 1) > 0 then (if (wrap64 ((wrap64 ((wrap64 ((wrap64 ((wrap64 ((wrap64 ((wrap64 ((wrap64 ((wrap64 ((wrap64 ((wrap64 ((wrap64 ((wrap64 ((wrap64 ((wrap64 (t9.fst.tdiv 10)).tdiv 10)).tdiv 10)).tdiv 10)).tdiv 10)).tdiv 10)).tdiv 10)).tdiv 10)).tdiv 10)).tdiv 10)).tdiv 10)).tdiv 10)).tdiv 10)).tdiv 10)).tdiv 10)).tmod 10 = 0 then (if wrap64 (wrap64 (wrap64 (wrap64 (wrap64 (wrap64 (wrap64 (wrap64 (wrap64 (wrap64 (wrap64 (wrap64 (wrap64 (wrap64 (wrap64 (wrap64 (t9.snd - 1) - 1) - 1) - 1) - 1) - 1) - 1) - 1) - 1) - 1) - 1) - 1) - 1) - 1) - 1) - 1) > 0 then (if (wrap64 ((wrap64 ((wrap64 ((wrap64 ((wrap64 ((wrap64 ((wrap64 ((wrap64 ((wrap64 ((wrap64 ((wrap64 ((wrap64 ((wrap64 ((wrap64 ((wrap64 ((wrap64 (t9.fst.tdiv 10)).tdiv 10)).tdiv 10)).tdiv 10)).tdiv 10)).tdiv 10)).tdiv 10)).tdiv 10)).tdiv 10)).tdiv 10)).tdiv 10)).tdiv 10)).tdiv 10)).tdiv 10)).tdiv 10)).tdiv 10)).tmod 10 = 0 then (if wrap64 (wrap64 (wrap64 (wrap64 (wrap64 (wrap64 (wrap64 (wrap64 (wrap64 (wrap64 (wrap64 (wrap64 (wrap64 (wrap64 (wrap64 (wrap64 (wrap64 (t9.snd - 1) - 1) - 1) - 1) - 1) - 1) - 1) - 1) - 1) - 1) - 1) - 1) - 1) - 1) - 1) - 1) - 1) > 0 then (if (wrap64 ((wrap64 ((wrap64 ((wrap64 ((wrap64 ((wrap64 ((wrap64 ((wrap64 ((wrap64 ((wrap64 ((wrap64 ((wrap64 ((wrap64 ((wrap64 ((wrap64 ((wrap64 ((wrap64 (t9.fst.tdiv 10)).tdiv 10)).tdiv 10)).tdiv 10)).tdiv 10)).tdiv 10)).tdiv 10)).tdiv 10)).tdiv 10)).tdiv 10)).tdiv 10)).tdiv 10)).tdiv 10)).tdiv 10)).tdiv 10)).tdiv 10)).tdiv 10)).tmod 10 = 0 then (if wrap64 (wrap64 (wrap64 (wrap64 (wrap64 (wrap64 (wrap64 (wrap64 (wrap64 (wrap64 (wrap64 (wrap64 (wrap64 (wrap64 (wrap64 (wrap64 (wrap64 (wrap64 (t9.snd - 1) - 1) - 1) - 1) - 1) - 1) - 1) - 1) - 1) - 1) - 1) - 1) - 1) - 1) - 1) - 1) - 1) - 1) > 0 then (if (wrap64 ((wrap64 ((wrap64 ((wrap64 ((wrap64 ((wrap64 ((wrap64 ((wrap64 ((wrap64 ((wrap64 ((wrap64 ((wrap64 ((wrap64 ((wrap64 ((wrap64 ((wrap64 ((wrap64 ((wrap64 (t9.fst.tdiv 10)).tdiv 10)).tdiv 10)).tdiv 10)).tdiv 10)).tdiv 10)).tdiv 10)).tdiv 10)).tdiv 10)).tdiv 10)).tdiv 10)).tdiv 10)).tdiv 10)).tdiv 10)).tdiv 10)).tdiv 10)).tdiv 10)).tdiv 10)).tmod 10 = 0 then (if wrap64 (wrap64 (wrap64 (wrap64 (wrap64 (wrap64 (wrap64 (wrap64 (wrap64 (wrap64 (wrap64 (wrap64 (wrap64 (wrap64 (wrap64 (wrap64 (wrap64 (wrap64 (wrap64 (t9.snd - 1) - 1) - 1) - 1) - 1) - 1) - 1) - 1) - 1) - 1) - 1) - 1) - 1) - 1) - 1) - 1) - 1) - 1) - 1) > 0 then (if (wrap64 ((wrap64 ((wrap64 ((wrap64 ((wrap64 ((wrap64 ((wrap64 ((wrap64 ((wrap64 ((wrap64 ((wrap64 ((wrap64 ((wrap64 ((wrap64 ((wrap64 ((wrap64 ((wrap64 ((wrap64 ((wrap64 (t9.fst.tdiv 10)).tdiv 10)).tdiv 10)).tdiv 10)).tdiv 10)).tdiv 10)).tdiv 10)).tdiv 10)).tdiv 10)).tdiv 10)).tdiv 10)).tdiv 10)).tdiv 10)).tdiv 10)).tdiv 10)).tdiv 10)).tdiv 10)).tdiv 10)).tdiv 10)).tmod 10 = 0 then none
                                                 else K ⟨7, [wrap64 ((wrap64 ((wrap64 ((wrap64 ((wrap64 ((wrap64 ((wrap64 ((wrap64 ((wrap64 ((wrap64 ((wrap64 ((wrap64 ((wrap64 ((wrap64 ((wrap64 ((wrap64 ((wrap64 ((wrap64 ((wrap64 (t9.fst.tdiv 10)).tdiv 10)).tdiv 10)).tdiv 10)).tdiv 10)).tdiv 10)).tdiv 10)).tdiv 10)).tdiv 10)).tdiv 10)).tdiv 10)).tdiv 10)).tdiv 10)).tdiv 10)).tdiv 10)).tdiv 10)).tdiv 10)).tdiv 10)).tdiv 10), wrap64 (wrap64 (wrap64 (wrap64 (wrap64 (wrap64 (wrap64 (wrap64 (wrap64 (wrap64 (wrap64 (wrap64 (wrap64 (wrap64 (wrap64 (wrap64 (wrap64 (wrap64 (wrap64 (t9.snd - 1) - 1) - 1) - 1) - 1) - 1) - 1) - 1) - 1) - 1) - 1) - 1) - 1) - 1) - 1) - 1) - 1) - 1) - 1)]⟩)
                                                else K ⟨7, [wrap64 ((wrap64 ((wrap64 ((wrap64 ((wrap64 ((wrap64 ((wrap64 ((wrap64 ((wrap64 ((wrap64 ((wrap64 ((wrap64 ((wrap64 ((wrap64 ((wrap64 ((wrap64 ((wrap64 ((wrap64 ((wrap64 (t9.fst.tdiv 10)).tdiv 10)).tdiv 10)).tdiv 10)).tdiv 10)).tdiv 10)).tdiv 10)).tdiv 10)).tdiv 10)).tdiv 10)).tdiv 10)).tdiv 10)).tdiv 10)).tdiv 10)).tdiv 10)).tdiv 10)).tdiv 10)).tdiv 10)).tdiv 10), wrap64 (wrap64 (wrap64 (wrap64 (wrap64 (wrap64 (wrap64 (wrap64 (wrap64 (wrap64 (wrap64 (wrap64 (wrap64 (wrap64 (wrap64 (wrap64 (wrap64 (wrap64 (wrap64 (t9.snd - 1) - 1) - 1) - 1) - 1) - 1) - 1) - 1) - 1) - 1) - 1) - 1) - 1) - 1) - 1) - 1) - 1) - 1) - 1)]⟩)
                                               else K ⟨7, [wrap64 ((wrap64 ((wrap64 ((wrap64 ((wrap64 ((wrap64 ((wrap64 ((wrap64 ((wrap64 ((wrap64 ((wrap64 ((wrap64 ((wrap64 ((wrap64 ((wrap64 ((wrap64 ((wrap64 ((wrap64 (t9.fst.tdiv 10)).tdiv 10)).tdiv 10)).tdiv 10)).tdiv 10)).tdiv 10)).tdiv 10)).tdiv 10)).tdiv 10)).tdiv 10)).tdiv 10)).tdiv 10)).tdiv 10)).tdiv 10)).tdiv 10)).tdiv 10)).tdiv 10)).tdiv 10), wrap64 (wrap64 (wrap64 (wrap64 (wrap64 (wrap64 (wrap64 (wrap64 (wrap64 (wrap64 (wrap64 (wrap64 (wrap64 (wrap64 (wrap64 (wrap64 (wrap64 (wrap64 (t9.snd - 1) - 1) - 1) - 1) - 1) - 1) - 1) - 1) - 1) - 1) - 1) - 1) - 1) - 1) - 1) - 1) - 1) - 1)]⟩)
                                              else K ⟨7, [wrap64 ((wrap64 ((wrap64 ((wrap64 ((wrap64 ((wrap64 ((wrap64 ((wrap64 ((wrap64 ((wrap64 ((wrap64 ((wrap64 ((wrap64 ((wrap64 ((wrap64 ((wrap64 ((wrap64 ((wrap64 (t9.fst.tdiv 10)).tdiv 10)).tdiv 10)).tdiv 10)).tdiv 10)).tdiv 10)).tdiv 10)).tdiv 10)).tdiv 10)).tdiv 10)).tdiv 10)).tdiv 10)).tdiv 10)).tdiv 10)).tdiv 10)).tdiv 10)).tdiv 10)).tdiv 10), wrap64 (wrap64 (wrap64 (wrap64 (wrap64 (wrap64 (wrap64 (wrap64 (wrap64 (wrap64 (wrap64 (wrap64 (wrap64 (wrap64 (wrap64 (wrap64 (wrap64 (wrap64 (t9.snd - 1) - 1) - 1) - 1) - 1) - 1) - 1) - 1) - 1) - 1) - 1) - 1) - 1) - 1) - 1) - 1) - 1) - 1)]⟩)
                                             else K ⟨7, [wrap64 ((wrap64 ((wrap64 ((wrap64 ((wrap64 ((wrap64 ((wrap64 ((wrap64 ((wrap64 ((wrap64 ((wrap64 ((wrap64 ((wrap64 ((wrap64 ((wrap64 ((wrap64 ((wrap64 (t9.fst.tdiv 10)).tdiv 10)).tdiv 10)).tdiv 10)).tdiv 10)).tdiv 10)).tdiv 10)).tdiv 10)).tdiv 10)).tdiv 10)).tdiv 10)).tdiv 10)).tdiv 10)).tdiv 10)).tdiv 10)).tdiv 10)).tdiv 10), wrap64 (wrap64 (wrap64 (wrap64 (wrap64 (wrap64 (wrap64 (wrap64 (wrap64 (wrap64 (wrap64 (wrap64 (wrap64 (wrap64 (wrap64 (wrap64 (wrap64 (t9.snd - 1) - 1) - 1) - 1) - 1) - 1) - 1) - 1) - 1) - 1) - 1) - 1) - 1) - 1) - 1) - 1) - 1)]⟩)
                                            else K ⟨7, [wrap64 ((wrap64 ((wrap64 ((wrap64 ((wrap64 ((wrap64 ((wrap64 ((wrap64 ((wrap64 ((wrap64 ((wrap64 ((wrap64 ((wrap64 ((wrap64 ((wrap64 ((wrap64 ((wrap64 (t9.fst.tdiv 10)).tdiv 10)).tdiv 10)).tdiv 10)).tdiv 10)).tdiv 10)).tdiv 10)).tdiv 10)).tdiv 10)).tdiv 10)).tdiv 10)).tdiv 10)).tdiv 10)).tdiv 10)).tdiv 10)).tdiv 10)).tdiv 10), wrap64 (wrap64 (wrap64 (wrap64 (wrap64 (wrap64 (wrap64 (wrap64 (wrap64 (wrap64 (wrap64 (wrap64 (wrap64 (wrap64 (wrap64 (wrap64 (wrap64 (t9.snd - 1) - 1) - 1) - 1) - 1) - 1) - 1) - 1) - 1) - 1) - 1) - 1) - 1) - 1) - 1) - 1) - 1)]⟩)
                                           else K ⟨7, [wrap64 ((wrap64 ((wrap64 ((wrap64 ((wrap64 ((wrap64 ((wrap64 ((wrap64 ((wrap64 ((wrap64 ((wrap64 ((wrap64 ((wrap64 ((wrap64 ((wrap64 ((wrap64 (t9.fst.tdiv 10)).tdiv 10)).tdiv 10)).tdiv 10)).tdiv 10)).tdiv 10)).tdiv 10)).tdiv 10)).tdiv 10)).tdiv 10)).tdiv 10)).tdiv 10)).tdiv 10)).tdiv 10)).tdiv 10)).tdiv 10), wrap64 (wrap64 (wrap64 (wrap64 (wrap64 (wrap64 (wrap64 (wrap64 (wrap64 (wrap64 (wrap64 (wrap64 (wrap64 (wrap64 (wrap64 (wrap64 (t9.snd - 1) - 1) - 1) - 1) - 1) - 1) - 1) - 1) - 1) - 1) - 1) - 1) - 1) - 1) - 1) - 1)]⟩)
                                          else K ⟨7, [wrap64 ((wrap64 ((wrap64 ((wrap64 ((wrap64 ((wrap64 ((wrap64 ((wrap64 ((wrap64 ((wrap64 ((wrap64 ((wrap64 ((wrap64 ((wrap64 ((wrap64 ((wrap64 (t9.fst.tdiv 10)).tdiv 10)).tdiv 10)).tdiv 10)).tdiv 10)).tdiv 10)).tdiv 10)).tdiv 10)).tdiv 10)).tdiv 10)).tdiv 10)).tdiv 10)).tdiv 10)).tdiv 10)).tdiv 10)).tdiv 10), wrap64 (wrap64 (wrap64 (wrap64 (wrap64 (wrap64 (wrap64 (wrap64 (wrap64 (wrap64 (wrap64 (wrap64 (wrap64 (wrap64 (wrap64 (wrap64 (t9.snd - 1) - 1) - 1) - 1) - 1) - 1) - 1) - 1) - 1) - 1) - 1) - 1) - 1) - 1) - 1) - 1)]⟩)
                                         else K ⟨7, [wrap64 ((wrap64 ((wrap64 ((wrap64 ((wrap64 ((wrap64 ((wrap64 ((wrap64 ((wrap64 ((wrap64 ((wrap64 ((wrap64 ((wrap64 ((wrap64 ((wrap64 (t9.fst.tdiv 10)).tdiv 10)).tdiv 10)).tdiv 10)).tdiv 10)).tdiv 10)).tdiv 10)).tdiv 10)).tdiv 10)).tdiv 10)).tdiv 10)).tdiv 10)).tdiv 10)).tdiv 10)).tdiv 10), wrap64 (wrap64 (wrap64 (wrap64 (wrap64 (wrap64 (wrap64 (wrap64 (wrap64 (wrap64 (wrap64 (wrap64 (wrap64 (wrap64 (wrap64 (t9.snd - 1) - 1) - 1) - 1) - 1) - 1) - 1) - 1) - 1) - 1) - 1) - 1) - 1) - 1) - 1)]⟩)
                                        else K ⟨7, [wrap64 ((wrap64 ((wrap64 ((wrap64 ((wrap64 ((wrap64 ((wrap64 ((wrap64 ((wrap64 ((wrap64 ((wrap64 ((wrap64 ((wrap64 ((wrap64 ((wrap64 (t9.fst.tdiv 10)).tdiv 10)).tdiv 10)).tdiv 10)).tdiv 10)).tdiv 10)).tdiv 10)).tdiv 10)).tdiv 10)).tdiv 10)).tdiv 10)).tdiv 10)).tdiv 10)).tdiv 10)).tdiv 10), wrap64 (wrap64 (wrap64 (wrap64 (wrap64 (wrap64 (wrap64 (wrap64 (wrap64 (wrap64 (wrap64 (wrap64 (wrap64 (wrap64 (wrap64 (t9.snd - 1) - 1) - 1) - 1) - 1) - 1) - 1) - 1) - 1) - 1) - 1) - 1) - 1) - 1) - 1)]⟩)
                                       else K ⟨7, [wrap64 ((wrap64 ((wrap64 ((wrap64 ((wrap64 ((wrap64 ((wrap64 ((wrap64 ((wrap64 ((wrap64 ((wrap64 ((wrap64 ((wrap64 ((wrap64 (t9.fst.tdiv 10)).tdiv 10)).tdiv 10)).tdiv 10)).tdiv 10)).tdiv 10)).tdiv 10)).tdiv 10)).tdiv 10)).tdiv 10)).tdiv 10)).tdiv 10)).tdiv 10)).tdiv 10), wrap64 (wrap64 (wrap64 (wrap64 (wrap64 (wrap64 (wrap64 (wrap64 (wrap64 (wrap64 (wrap64 (wrap64 (wrap64 (wrap64 (t9.snd - 1) - 1) - 1) - 1) - 1) - 1) - 1) - 1) - 1) - 1) - 1) - 1) - 1) - 1)]⟩)
                                      else K ⟨7, [wrap64 ((wrap64 ((wrap64 ((wrap64 ((wrap64 ((wrap64 ((wrap64 ((wrap64 ((wrap64 ((wrap64 ((wrap64 ((wrap64 ((wrap64 ((wrap64 (t9.fst.tdiv 10)).tdiv 10)).tdiv 10)).tdiv 10)).tdiv 10)).tdiv 10)).tdiv 10)).tdiv 10)).tdiv 10)).tdiv 10)).tdiv 10)).tdiv 10)).tdiv 10)).tdiv 10), wrap64 (wrap64 (wrap64 (wrap64 (wrap64 (wrap64 (wrap64 (wrap64 (wrap64 (wrap64 (wrap64 (wrap64 (wrap64 (wrap64 (t9.snd - 1) - 1) - 1) - 1) - 1) - 1) - 1) - 1) - 1) - 1) - 1) - 1) - 1) - 1)]⟩)
                                     else K ⟨7, [wrap64 ((wrap64 ((wrap64 ((wrap64 ((wrap64 ((wrap64 ((wrap64 ((wrap64 ((wrap64 ((wrap64 ((wrap64 ((wrap64 ((wrap64 (t9.fst.tdiv 10)).tdiv 10)).tdiv 10)).tdiv 10)).tdiv 10)).tdiv 10)).tdiv 10)).tdiv 10)).tdiv 10)).tdiv 10)).tdiv 10)).tdiv 10)).tdiv 10), wrap64 (wrap64 (wrap64 (wrap64 (wrap64 (wrap64 (wrap64 (wrap64 (wrap64 (wrap64 (wrap64 (wrap64 (wrap64 (t9.snd - 1) - 1) - 1) - 1) - 1) - 1) - 1) - 1) - 1) - 1) - 1) - 1) - 1)]⟩)
                                    else K ⟨7, [wrap64 ((wrap64 ((wrap64 ((wrap64 ((wrap64 ((wrap64 ((wrap64 ((wrap64 ((wrap64 ((wrap64 ((wrap64 ((wrap64 ((wrap64 (t9.fst.tdiv 10)).tdiv 10)).tdiv 10)).tdiv 10)).tdiv 10)).tdiv 10)).tdiv 10)).tdiv 10)).tdiv 10)).tdiv 10)).tdiv 10)).tdiv 10)).tdiv 10), wrap64 (wrap64 (wrap64 (wrap64 (wrap64 (wrap64 (wrap64 (wrap64 (wrap64 (wrap64 (wrap64 (wrap64 (wrap64 (t9.snd - 1) - 1) - 1) - 1) - 1) - 1) - 1) - 1) - 1) - 1) - 1) - 1) - 1)]⟩)
                                   else K ⟨7, [wrap64 ((wrap64 ((wrap64 ((wrap64 ((wrap64 ((wrap64 ((wrap64 ((wrap64 ((wrap64 ((wrap64 ((wrap64 ((wrap64 (t9.fst.tdiv 10)).tdiv 10)).tdiv 10)).tdiv 10)).tdiv 10)).tdiv 10)).tdiv 10)).tdiv 10)).tdiv 10)).tdiv 10)).tdiv 10)).tdiv 10), wrap64 (wrap64 (wrap64 (wrap64 (wrap64 (wrap64 (wrap64 (wrap64 (wrap64 (wrap64 (wrap64 (wrap64 (t9.snd - 1) - 1) - 1) - 1) - 1) - 1) - 1) - 1) - 1) - 1) - 1) - 1)]⟩)
                                  else K ⟨7, [wrap64 ((wrap64 ((wrap64 ((wrap64 ((wrap64 ((wrap64 ((wrap64 ((wrap64 ((wrap64 ((wrap64 ((wrap64 ((wrap64 (t9.fst.tdiv 10)).tdiv 10)).tdiv 10)).tdiv 10)).tdiv 10)).tdiv 10)).tdiv 10)).tdiv 10)).tdiv 10)).tdiv 10)).tdiv 10)).tdiv 10), wrap64 (wrap64 (wrap64 (wrap64 (wrap64 (wrap64 (wrap64 (wrap64 (wrap64 (wrap64 (wrap64 (wrap64 (t9.snd - 1) - 1) - 1) - 1) - 1) - 1) - 1) - 1) - 1) - 1) - 1) - 1)]⟩)
                                 else K ⟨7, [wrap64 ((wrap64 ((wrap64 ((wrap64 ((wrap64 ((wrap64 ((wrap64 ((wrap64 ((wrap64 ((wrap64 ((wrap64 (t9.fst.tdiv 10)).tdiv 10)).tdiv 10)).tdiv 10)).tdiv 10)).tdiv 10)).tdiv 10)).tdiv 10)).tdiv 10)).tdiv 10)).tdiv 10), wrap64 (wrap64 (wrap64 (wrap64 (wrap64 (wrap64 (wrap64 (wrap64 (wrap64 (wrap64 (wrap64 (t9.snd - 1) - 1) - 1) - 1) - 1) - 1) - 1) - 1) - 1) - 1) - 1)]⟩)
                                else K ⟨7, [wrap64 ((wrap64 ((wrap64 ((wrap64 ((wrap64 ((wrap64 ((wrap64 ((wrap64 ((wrap64 ((wrap64 ((wrap64 (t9.fst.tdiv 10)).tdiv 10)).tdiv 10)).tdiv 10)).tdiv 10)).tdiv 10)).tdiv 10)).tdiv 10)).tdiv 10)).tdiv 10)).tdiv 10), wrap64 (wrap64 (wrap64 (wrap64 (wrap64 (wrap64 (wrap64 (wrap64 (wrap64 (wrap64 (wrap64 (t9.snd - 1) - 1) - 1) - 1) - 1) - 1) - 1) - 1) - 1) - 1) - 1)]⟩)
                               else K ⟨7, [wrap64 ((wrap64 ((wrap64 ((wrap64 ((wrap64 ((wrap64 ((wrap64 ((wrap64 ((wrap64 ((wrap64 (t9.fst.tdiv 10)).tdiv 10)).tdiv 10)).tdiv 10)).tdiv 10)).tdiv 10)).tdiv 10)).tdiv 10)).tdiv 10)).tdiv 10), wrap64 (wrap64 (wrap64 (wrap64 (wrap64 (wrap64 (wrap64 (wrap64 (wrap64 (wrap64 (t9.snd - 1) - 1) - 1) - 1) - 1) - 1) - 1) - 1) - 1) - 1)]⟩)
                              else K ⟨7, [wrap64 ((wrap64 ((wrap64 ((wrap64 ((wrap64 ((wrap64 ((wrap64 ((wrap64 ((wrap64 ((wrap64 (t9.fst.tdiv 10)).tdiv 10)).tdiv 10)).tdiv 10)).tdiv 10)).tdiv 10)).tdiv 10)).tdiv 10)).tdiv 10)).tdiv 10), wrap64 (wrap64 (wrap64 (wrap64 (wrap64 (wrap64 (wrap64 (wrap64 (wrap64 (wrap64 (t9.snd - 1) - 1) - 1) - 1) - 1) - 1) - 1) - 1) - 1) - 1)]⟩)
                             else K ⟨7, [wrap64 ((wrap64 ((wrap64 ((wrap64 ((wrap64 ((wrap64 ((wrap64 ((wrap64 ((wrap64 (t9.fst.tdiv 10)).tdiv 10)).tdiv 10)).tdiv 10)).tdiv 10)).tdiv 10)).tdiv 10)).tdiv 10)).tdiv 10), wrap64 (wrap64 (wrap64 (wrap64 (wrap64 (wrap64 (wrap64 (wrap64 (wrap64 (t9.snd - 1) - 1) - 1) - 1) - 1) - 1) - 1) - 1) - 1)]⟩)
                            else K ⟨7, [wrap64 ((wrap64 ((wrap64 ((wrap64 ((wrap64 ((wrap64 ((wrap64 ((wrap64 ((wrap64 (t9.fst.tdiv 10)).tdiv 10)).tdiv 10)).tdiv 10)).tdiv 10)).tdiv 10)).tdiv 10)).tdiv 10)).tdiv 10), wrap64 (wrap64 (wrap64 (wrap64 (wrap64 (wrap64 (wrap64 (wrap64 (wrap64 (t9.snd - 1) - 1) - 1) - 1) - 1) - 1) - 1) - 1) - 1)]⟩)
                           else K ⟨7, [wrap64 ((wrap64 ((wrap64 ((wrap64 ((wrap64 ((wrap64 ((wrap64 ((wrap64 (t9.fst.tdiv 10)).tdiv 10)).tdiv 10)).tdiv 10)).tdiv 10)).tdiv 10)).tdiv 10)).tdiv 10), wrap64 (wrap64 (wrap64 (wrap64 (wrap64 (wrap64 (wrap64 (wrap64 (t9.snd - 1) - 1) - 1) - 1) - 1) - 1) - 1) - 1)]⟩)
                          else K ⟨7, [wrap64 ((wrap64 ((wrap64 ((wrap64 ((wrap64 ((wrap64 ((wrap64 ((wrap64 (t9.fst.tdiv 10)).tdiv 10)).tdiv 10)).tdiv 10)).tdiv 10)).tdiv 10)).tdiv 10)).tdiv 10), wrap64 (wrap64 (wrap64 (wrap64 (wrap64 (wrap64 (wrap64 (wrap64 (t9.snd - 1) - 1) - 1) - 1) - 1) - 1) - 1) - 1)]⟩)
                         else K ⟨7, [wrap64 ((wrap64 ((wrap64 ((wrap64 ((wrap64 ((wrap64 ((wrap64 (t9.fst.tdiv 10)).tdiv 10)).tdiv 10)).tdiv 10)).tdiv 10)).tdiv 10)).tdiv 10), wrap64 (wrap64 (wrap64 (wrap64 (wrap64 (wrap64 (wrap64 (t9.snd - 1) - 1) - 1) - 1) - 1) - 1) - 1)]⟩)
                        else K ⟨7, [wrap64 ((wrap64 ((wrap64 ((wrap64 ((wrap64 ((wrap64 ((wrap64 (t9.fst.tdiv 10)).tdiv 10)).tdiv 10)).tdiv 10)).tdiv 10)).tdiv 10)).tdiv 10), wrap64 (wrap64 (wrap64 (wrap64 (wrap64 (wrap64 (wrap64 (t9.snd - 1) - 1) - 1) - 1) - 1) - 1) - 1)]⟩)
                       else K ⟨7, [wrap64 ((wrap64 ((wrap64 ((wrap64 ((wrap64 ((wrap64 (t9.fst.tdiv 10)).tdiv 10)).tdiv 10)).tdiv 10)).tdiv 10)).tdiv 10), wrap64 (wrap64 (wrap64 (wrap64 (wrap64 (wrap64 (t9.snd - 1) - 1) - 1) - 1) - 1) - 1)]⟩)
                      else K ⟨7, [wrap64 ((wrap64 ((wrap64 ((wrap64 ((wrap64 ((wrap64 (t9.fst.tdiv 10)).tdiv 10)).tdiv 10)).tdiv 10)).tdiv 10)).tdiv 10), wrap64 (wrap64 (wrap64 (wrap64 (wrap64 (wrap64 (t9.snd - 1) - 1) - 1) - 1) - 1) - 1)]⟩)
                     else K ⟨7, [wrap64 ((wrap64 ((wrap64 ((wrap64 ((wrap64 (t9.fst.tdiv 10)).tdiv 10)).tdiv 10)).tdiv 10)).tdiv 10), wrap64 (wrap64 (wrap64 (wrap64 (wrap64 (t9.snd - 1) - 1) - 1) - 1) - 1)]⟩)
                    else K ⟨7, [wrap64 ((wrap64 ((wrap64 ((wrap64 ((wrap64 (t9.fst.tdiv 10)).tdiv 10)).tdiv 10)).tdiv 10)).tdiv 10), wrap64 (wrap64 (wrap64 (wrap64 (wrap64 (t9.snd - 1) - 1) - 1) - 1) - 1)]⟩)
                   else K ⟨7, [wrap64 ((wrap64 ((wrap64 ((wrap64 (t9.fst.tdiv 10)).tdiv 10)).tdiv 10)).tdiv 10), wrap64 (wrap64 (wrap64 (wrap64 (t9.snd - 1) - 1) - 1) - 1)]⟩)
                  else K ⟨7, [wrap64 ((wrap64 ((wrap64 ((wrap64 (t9.fst.tdiv 10)).tdiv 10)).tdiv 10)).tdiv 10), wrap64 (wrap64 (wrap64 (wrap64 (t9.snd - 1) - 1) - 1) - 1)]⟩)
                 else K ⟨7, [wrap64 ((wrap64 ((wrap64 (t9.fst.tdiv 10)).tdiv 10)).tdiv 10), wrap64 (wrap64 (wrap64 (t9.snd - 1) - 1) - 1)]⟩)
                else K ⟨7, [wrap64 ((wrap64 ((wrap64 (t9.fst.tdiv 10)).tdiv 10)).tdiv 10), wrap64 (wrap64 (wrap64 (t9.snd - 1) - 1) - 1)]⟩)
               else K ⟨7, [wrap64 ((wrap64 (t9.fst.tdiv 10)).tdiv 10), wrap64 (wrap64 (t9.snd - 1) - 1)]⟩)
              else K ⟨7, [wrap64 ((wrap64 (t9.fst.tdiv 10)).tdiv 10), wrap64 (wrap64 (t9.snd - 1) - 1)]⟩)
             else K ⟨7, [wrap64 (t9.fst.tdiv 10), wrap64 (t9.snd - 1)]⟩)
            else K ⟨7, [wrap64 (t9.fst.tdiv 10), wrap64 (t9.snd - 1)]⟩)
           else K ⟨7, [t9.fst, t9.snd]⟩)
          else K ⟨7, [t9.fst, t9.snd]⟩
        else if wrap64 (4 + t4) = 8 then (law8_within (n2, 1000)).bind fun t10 => (law8_within (n2, 3)).bind fun t11 => K ⟨wrap64 (4 + t4), [wrap64 (wrap64 (10 * t10) + t11), n1.tmod 1000000000000]⟩
         else if wrap64 (4 + t4) = 9 then (law8_within (n1, 9007199254740992)).bind fun t11 => K ⟨wrap64 (4 + t4), [t11]⟩
          else if wrap64 (4 + t4) = 10 then (ref1_Days (t2.fst, t2.snd.fst, t2.snd.snd)).bind fun t12 => (ref1_Days (t3.fst, t3.snd.fst, t3.snd.snd)).bind fun t13 => if t12 > t13 then K ⟨wrap64 (4 + t4), [t3.fst, t3.snd.fst, t3.snd.snd, t2.fst, t2.snd.fst, t2.snd.snd]⟩
              else K ⟨wrap64 (4 + t4), [t2.fst, t2.snd.fst, t2.snd.snd, t3.fst, t3.snd.fst, t3.snd.snd]⟩
           else K ⟨wrap64 (4 + t4), []⟩
set_option maxRecDepth 100000 in
theorem law8_Value.nat {γ : Type} (g : (S27) → Option γ) (law1_Day : (Int × Bool) → Option (Int × Int × Int)) (law8_within : (Int × Int) → Option (Int)) (law2_Make : (Int × Int) → Option (Int × Int)) (ref1_Days : (Int × Int × Int) → Option (Int)) (n0 : Int) (n1 : Int) (n2 : Int) : (law8_Value.t some law1_Day law8_within law2_Make ref1_Days n0 n1 n2).bind g = law8_Value.t g law1_Day law8_within law2_Make ref1_Days n0 n1 n2 := by
  unfold law8_Value.t
  repeat' first | exact rfl | refine nat_i ?_ ?_ | refine nat_b ?_ ?_ | refine nat_o (fun _ => ?_) | refine nat_m ?_ (fun _ => ?_)
set_option maxRecDepth 100000 in
theorem law8_Value.run (law1_Day : (Int × Bool) → Option (Int × Int × Int)) (law8_within : (Int × Int) → Option (Int)) (law2_Make : (Int × Int) → Option (Int × Int)) (ref1_Days : (Int × Int × Int) → Option (Int)) (n0 : Int) (n1 : Int) (n2 : Int) : run ⟨[(37, sp (oc sI (o1 sB)) (oc sI (oc sI (o1 sI))) law1_Day), (18, sp (oc sI (o1 sI)) (o1 sI) law8_within), (49, sp (oc sI (o1 sI)) (oc sI (o1 sI)) law2_Make), (31, sp (oc sI (oc sI (o1 sI))) (o1 sI) ref1_Days)], []⟩ 20 Try.f28 ((oc sI (oc sI (o1 sI))).enc (n0, n1, n2)) = law8_Value.t (fun b => some (.ret (packD ((o1 s1).enc b)))) law1_Day law8_within law2_Make ref1_Days n0 n1 n2 := by kernel_rfl
noncomputable def law8_Value.F (a : Int × Int × Int) : Option (S27) := law8_Value.t some interlocutorlaw1_Day.F interlocutorlaw8_within.F interlocutorlaw2_Make.F interlocutorref1_Days.F a.1 a.2.1 a.2.2
theorem law8_Value.good : Good 28 (sp (oc sI (oc sI (o1 sI))) (o1 s1) law8_Value.F) := good_tree _ _ _ (Ok.cons interlocutorlaw1_Day.good (Ok.cons interlocutorlaw8_within.good (Ok.cons interlocutorlaw2_Make.good (Ok.cons interlocutorref1_Days.good Ok.nil)))) 20 (fn := Try.f28) (by kernel_rfl) (by kernel_rfl) (by kernel_rfl) fun a => (law8_Value.nat _ interlocutorlaw1_Day.F interlocutorlaw8_within.F interlocutorlaw2_Make.F interlocutorref1_Days.F a.1 a.2.1 a.2.2).trans (law8_Value.run interlocutorlaw1_Day.F interlocutorlaw8_within.F interlocutorlaw2_Make.F interlocutorref1_Days.F a.1 a.2.1 a.2.2).symm
noncomputable def law8_number.t {γ : Type} (K : (S27) → Option γ) (law8_within : (Int × Int) → Option (Int)) (n0 : Int) : Option γ :=
  (law8_within (wrap64 (n0.tdiv 10000), 7)).bind fun t2 => if 0 ≤ t2 then (if t2 < 7 then (law8_within (n0, rd [10, 13, 32, 60, 100, 1000, 10000] t2)).bind fun t5 => if t5 ≥ 10 then (if wrap64 (t5.tdiv 10) ≥ 10 then (if wrap64 ((wrap64 (t5.tdiv 10)).tdiv 10) ≥ 10 then (if wrap64 ((wrap64 ((wrap64 (t5.tdiv 10)).tdiv 10)).tdiv 10) ≥ 10 then (if wrap64 ((wrap64 ((wrap64 ((wrap64 (t5.tdiv 10)).tdiv 10)).tdiv 10)).tdiv 10) ≥ 10 then (if wrap64 ((wrap64 ((wrap64 ((wrap64 ((wrap64 (t5.tdiv 10)).tdiv 10)).tdiv 10)).tdiv 10)).tdiv 10) ≥ 10 then none
           else K ⟨1, [t5, 6]⟩)
          else K ⟨1, [t5, 5]⟩)
         else K ⟨1, [t5, 4]⟩)
        else K ⟨1, [t5, 3]⟩)
       else K ⟨1, [t5, 2]⟩)
      else K ⟨1, [t5, 1]⟩
    else none)
   else none
set_option maxRecDepth 100000 in
theorem law8_number.nat {γ : Type} (g : (S27) → Option γ) (law8_within : (Int × Int) → Option (Int)) (n0 : Int) : (law8_number.t some law8_within n0).bind g = law8_number.t g law8_within n0 := by
  unfold law8_number.t
  repeat' first | exact rfl | refine nat_i ?_ ?_ | refine nat_b ?_ ?_ | refine nat_o (fun _ => ?_) | refine nat_m ?_ (fun _ => ?_)
set_option maxRecDepth 100000 in
theorem law8_number.run (law8_within : (Int × Int) → Option (Int)) (n0 : Int) : run ⟨[(18, sp (oc sI (o1 sI)) (o1 sI) law8_within)], []⟩ 6 Try.f26 ((o1 sI).enc n0) = law8_number.t (fun b => some (.ret (packD ((o1 s1).enc b)))) law8_within n0 := by kernel_rfl
noncomputable def law8_number.F (a : Int) : Option (S27) := law8_number.t some interlocutorlaw8_within.F a
theorem law8_number.good : Good 26 (sp (o1 sI) (o1 s1) law8_number.F) := good_tree _ _ _ (Ok.cons interlocutorlaw8_within.good Ok.nil) 6 (fn := Try.f26) (by kernel_rfl) (by kernel_rfl) (by kernel_rfl) fun a => (law8_number.nat _ interlocutorlaw8_within.F a).trans (law8_number.run interlocutorlaw8_within.F a).symm
noncomputable def law8_word.t {γ : Type} (K : (S27) → Option γ) (law8_within : (Int × Int) → Option (Int)) (n0 : Int) : Option γ :=
  (law8_within (n0, 12)).bind fun t2 => if 0 ≤ t2 then (if t2 < 12 then K ⟨2, [rd [0, 1, 2, 3, 4, 5, 6, -1, 12, 60, 3600, 9782] t2]⟩
    else none)
   else none
set_option maxRecDepth 100000 in
theorem law8_word.nat {γ : Type} (g : (S27) → Option γ) (law8_within : (Int × Int) → Option (Int)) (n0 : Int) : (law8_word.t some law8_within n0).bind g = law8_word.t g law8_within n0 := by
  unfold law8_word.t
  repeat' first | exact rfl | refine nat_i ?_ ?_ | refine nat_b ?_ ?_ | refine nat_o (fun _ => ?_) | refine nat_m ?_ (fun _ => ?_)
set_option maxRecDepth 100000 in
theorem law8_word.run (law8_within : (Int × Int) → Option (Int)) (n0 : Int) : run ⟨[(18, sp (oc sI (o1 sI)) (o1 sI) law8_within)], []⟩ 0 Try.f27 ((o1 sI).enc n0) = law8_word.t (fun b => some (.ret (packD ((o1 s1).enc b)))) law8_within n0 := by kernel_rfl
noncomputable def law8_word.F (a : Int) : Option (S27) := law8_word.t some interlocutorlaw8_within.F a
theorem law8_word.good : Good 27 (sp (o1 sI) (o1 s1) law8_word.F) := good_tree _ _ _ (Ok.cons interlocutorlaw8_within.good Ok.nil) 0 (fn := Try.f27) (by kernel_rfl) (by kernel_rfl) (by kernel_rfl) fun a => (law8_word.nat _ interlocutorlaw8_within.F a).trans (law8_word.run interlocutorlaw8_within.F a).symm
noncomputable def law8_Child.t {γ : Type} (K : (S27) → Option γ) (law8_within : (Int × Int) → Option (Int)) (law8_Value : (Int × Int × Int) → Option (S27)) (n0 : Int) : Option γ :=
  (law8_within (n0, 8)).bind fun t2 => if t2 = 0 then (law8_within (wrap64 (n0.tdiv 8), 18)).bind fun t4 => if 0 ≤ t4 then (if t4 < 18 then (if rd [0, 1, 2, 5, 12, 13, 24, 29, 31, 60, 99, 100, 2024, 9999, 10000, 999, 1000000, 1000001] t4 ≥ 10 then (if wrap64 ((rd [0, 1, 2, 5, 12, 13, 24, 29, 31, 60, 99, 100, 2024, 9999, 10000, 999, 1000000, 1000001] t4).tdiv 10) ≥ 10 then (if wrap64 ((wrap64 ((rd [0, 1, 2, 5, 12, 13, 24, 29, 31, 60, 99, 100, 2024, 9999, 10000, 999, 1000000, 1000001] t4).tdiv 10)).tdiv 10) ≥ 10 then (if wrap64 ((wrap64 ((wrap64 ((rd [0, 1, 2, 5, 12, 13, 24, 29, 31, 60, 99, 100, 2024, 9999, 10000, 999, 1000000, 1000001] t4).tdiv 10)).tdiv 10)).tdiv 10) ≥ 10 then (if wrap64 ((wrap64 ((wrap64 ((wrap64 ((rd [0, 1, 2, 5, 12, 13, 24, 29, 31, 60, 99, 100, 2024, 9999, 10000, 999, 1000000, 1000001] t4).tdiv 10)).tdiv 10)).tdiv 10)).tdiv 10) ≥ 10 then (if wrap64 ((wrap64 ((wrap64 ((wrap64 ((wrap64 ((rd [0, 1, 2, 5, 12, 13, 24, 29, 31, 60, 99, 100, 2024, 9999, 10000, 999, 1000000, 1000001] t4).tdiv 10)).tdiv 10)).tdiv 10)).tdiv 10)).tdiv 10) ≥ 10 then (if wrap64 ((wrap64 ((wrap64 ((wrap64 ((wrap64 ((wrap64 ((rd [0, 1, 2, 5, 12, 13, 24, 29, 31, 60, 99, 100, 2024, 9999, 10000, 999, 1000000, 1000001] t4).tdiv 10)).tdiv 10)).tdiv 10)).tdiv 10)).tdiv 10)).tdiv 10) ≥ 10 then (if wrap64 ((wrap64 ((wrap64 ((wrap64 ((wrap64 ((wrap64 ((wrap64 ((rd [0, 1, 2, 5, 12, 13, 24, 29, 31, 60, 99, 100, 2024, 9999, 10000, 999, 1000000, 1000001] t4).tdiv 10)).tdiv 10)).tdiv 10)).tdiv 10)).tdiv 10)).tdiv 10)).tdiv 10) ≥ 10 then (if wrap64 ((wrap64 ((wrap64 ((wrap64 ((wrap64 ((wrap64 ((wrap64 ((wrap64 ((rd [0, 1, 2, 5, 12, 13, 24, 29, 31, 60, 99, 100, 2024, 9999, 10000, 999, 1000000, 1000001] t4).tdiv 10)).tdiv 10)).tdiv 10)).tdiv 10)).tdiv 10)).tdiv 10)).tdiv 10)).tdiv 10) ≥ 10 then none
               else (law8_within (wrap64 ((wrap64 (n0.tdiv 8)).tdiv 18), 2)).bind fun t16 => K ⟨1, [rd [0, 1, 2, 5, 12, 13, 24, 29, 31, 60, 99, 100, 2024, 9999, 10000, 999, 1000000, 1000001] t4, wrap64 (9 + t16)]⟩)
              else (law8_within (wrap64 ((wrap64 (n0.tdiv 8)).tdiv 18), 2)).bind fun t15 => K ⟨1, [rd [0, 1, 2, 5, 12, 13, 24, 29, 31, 60, 99, 100, 2024, 9999, 10000, 999, 1000000, 1000001] t4, wrap64 (8 + t15)]⟩)
             else (law8_within (wrap64 ((wrap64 (n0.tdiv 8)).tdiv 18), 2)).bind fun t14 => K ⟨1, [rd [0, 1, 2, 5, 12, 13, 24, 29, 31, 60, 99, 100, 2024, 9999, 10000, 999, 1000000, 1000001] t4, wrap64 (7 + t14)]⟩)
            else (law8_within (wrap64 ((wrap64 (n0.tdiv 8)).tdiv 18), 2)).bind fun t13 => K ⟨1, [rd [0, 1, 2, 5, 12, 13, 24, 29, 31, 60, 99, 100, 2024, 9999, 10000, 999, 1000000, 1000001] t4, wrap64 (6 + t13)]⟩)
           else (law8_within (wrap64 ((wrap64 (n0.tdiv 8)).tdiv 18), 2)).bind fun t12 => K ⟨1, [rd [0, 1, 2, 5, 12, 13, 24, 29, 31, 60, 99, 100, 2024, 9999, 10000, 999, 1000000, 1000001] t4, wrap64 (5 + t12)]⟩)
          else (law8_within (wrap64 ((wrap64 (n0.tdiv 8)).tdiv 18), 2)).bind fun t11 => K ⟨1, [rd [0, 1, 2, 5, 12, 13, 24, 29, 31, 60, 99, 100, 2024, 9999, 10000, 999, 1000000, 1000001] t4, wrap64 (4 + t11)]⟩)
         else (law8_within (wrap64 ((wrap64 (n0.tdiv 8)).tdiv 18), 2)).bind fun t10 => K ⟨1, [rd [0, 1, 2, 5, 12, 13, 24, 29, 31, 60, 99, 100, 2024, 9999, 10000, 999, 1000000, 1000001] t4, wrap64 (3 + t10)]⟩)
        else (law8_within (wrap64 ((wrap64 (n0.tdiv 8)).tdiv 18), 2)).bind fun t9 => K ⟨1, [rd [0, 1, 2, 5, 12, 13, 24, 29, 31, 60, 99, 100, 2024, 9999, 10000, 999, 1000000, 1000001] t4, wrap64 (2 + t9)]⟩)
       else (law8_within (wrap64 ((wrap64 (n0.tdiv 8)).tdiv 18), 2)).bind fun t8 => K ⟨1, [rd [0, 1, 2, 5, 12, 13, 24, 29, 31, 60, 99, 100, 2024, 9999, 10000, 999, 1000000, 1000001] t4, wrap64 (1 + t8)]⟩)
      else none)
     else none
   else if t2 = 1 then (law8_within (wrap64 (n0.tdiv 8), 18)).bind fun t5 => if 0 ≤ t5 then (if t5 < 18 then (if rd [0, 1, 2, 5, 12, 13, 24, 29, 31, 60, 99, 100, 2024, 9999, 10000, 999, 1000000, 1000001] t5 ≥ 10 then (if wrap64 ((rd [0, 1, 2, 5, 12, 13, 24, 29, 31, 60, 99, 100, 2024, 9999, 10000, 999, 1000000, 1000001] t5).tdiv 10) ≥ 10 then (if wrap64 ((wrap64 ((rd [0, 1, 2, 5, 12, 13, 24, 29, 31, 60, 99, 100, 2024, 9999, 10000, 999, 1000000, 1000001] t5).tdiv 10)).tdiv 10) ≥ 10 then (if wrap64 ((wrap64 ((wrap64 ((rd [0, 1, 2, 5, 12, 13, 24, 29, 31, 60, 99, 100, 2024, 9999, 10000, 999, 1000000, 1000001] t5).tdiv 10)).tdiv 10)).tdiv 10) ≥ 10 then (if wrap64 ((wrap64 ((wrap64 ((wrap64 ((rd [0, 1, 2, 5, 12, 13, 24, 29, 31, 60, 99, 100, 2024, 9999, 10000, 999, 1000000, 1000001] t5).tdiv 10)).tdiv 10)).tdiv 10)).tdiv 10) ≥ 10 then (if wrap64 ((wrap64 ((wrap64 ((wrap64 ((wrap64 ((rd [0, 1, 2, 5, 12, 13, 24, 29, 31, 60, 99, 100, 2024, 9999, 10000, 999, 1000000, 1000001] t5).tdiv 10)).tdiv 10)).tdiv 10)).tdiv 10)).tdiv 10) ≥ 10 then (if wrap64 ((wrap64 ((wrap64 ((wrap64 ((wrap64 ((wrap64 ((rd [0, 1, 2, 5, 12, 13, 24, 29, 31, 60, 99, 100, 2024, 9999, 10000, 999, 1000000, 1000001] t5).tdiv 10)).tdiv 10)).tdiv 10)).tdiv 10)).tdiv 10)).tdiv 10) ≥ 10 then (if wrap64 ((wrap64 ((wrap64 ((wrap64 ((wrap64 ((wrap64 ((wrap64 ((rd [0, 1, 2, 5, 12, 13, 24, 29, 31, 60, 99, 100, 2024, 9999, 10000, 999, 1000000, 1000001] t5).tdiv 10)).tdiv 10)).tdiv 10)).tdiv 10)).tdiv 10)).tdiv 10)).tdiv 10) ≥ 10 then (if wrap64 ((wrap64 ((wrap64 ((wrap64 ((wrap64 ((wrap64 ((wrap64 ((wrap64 ((rd [0, 1, 2, 5, 12, 13, 24, 29, 31, 60, 99, 100, 2024, 9999, 10000, 999, 1000000, 1000001] t5).tdiv 10)).tdiv 10)).tdiv 10)).tdiv 10)).tdiv 10)).tdiv 10)).tdiv 10)).tdiv 10) ≥ 10 then none
                else (law8_within (wrap64 ((wrap64 (n0.tdiv 8)).tdiv 18), 2)).bind fun t17 => K ⟨1, [rd [0, 1, 2, 5, 12, 13, 24, 29, 31, 60, 99, 100, 2024, 9999, 10000, 999, 1000000, 1000001] t5, wrap64 (9 + t17)]⟩)
               else (law8_within (wrap64 ((wrap64 (n0.tdiv 8)).tdiv 18), 2)).bind fun t16 => K ⟨1, [rd [0, 1, 2, 5, 12, 13, 24, 29, 31, 60, 99, 100, 2024, 9999, 10000, 999, 1000000, 1000001] t5, wrap64 (8 + t16)]⟩)
              else (law8_within (wrap64 ((wrap64 (n0.tdiv 8)).tdiv 18), 2)).bind fun t15 => K ⟨1, [rd [0, 1, 2, 5, 12, 13, 24, 29, 31, 60, 99, 100, 2024, 9999, 10000, 999, 1000000, 1000001] t5, wrap64 (7 + t15)]⟩)
             else (law8_within (wrap64 ((wrap64 (n0.tdiv 8)).tdiv 18), 2)).bind fun t14 => K ⟨1, [rd [0, 1, 2, 5, 12, 13, 24, 29, 31, 60, 99, 100, 2024, 9999, 10000, 999, 1000000, 1000001] t5, wrap64 (6 + t14)]⟩)
            else (law8_within (wrap64 ((wrap64 (n0.tdiv 8)).tdiv 18), 2)).bind fun t13 => K ⟨1, [rd [0, 1, 2, 5, 12, 13, 24, 29, 31, 60, 99, 100, 2024, 9999, 10000, 999, 1000000, 1000001] t5, wrap64 (5 + t13)]⟩)
           else (law8_within (wrap64 ((wrap64 (n0.tdiv 8)).tdiv 18), 2)).bind fun t12 => K ⟨1, [rd [0, 1, 2, 5, 12, 13, 24, 29, 31, 60, 99, 100, 2024, 9999, 10000, 999, 1000000, 1000001] t5, wrap64 (4 + t12)]⟩)
          else (law8_within (wrap64 ((wrap64 (n0.tdiv 8)).tdiv 18), 2)).bind fun t11 => K ⟨1, [rd [0, 1, 2, 5, 12, 13, 24, 29, 31, 60, 99, 100, 2024, 9999, 10000, 999, 1000000, 1000001] t5, wrap64 (3 + t11)]⟩)
         else (law8_within (wrap64 ((wrap64 (n0.tdiv 8)).tdiv 18), 2)).bind fun t10 => K ⟨1, [rd [0, 1, 2, 5, 12, 13, 24, 29, 31, 60, 99, 100, 2024, 9999, 10000, 999, 1000000, 1000001] t5, wrap64 (2 + t10)]⟩)
        else (law8_within (wrap64 ((wrap64 (n0.tdiv 8)).tdiv 18), 2)).bind fun t9 => K ⟨1, [rd [0, 1, 2, 5, 12, 13, 24, 29, 31, 60, 99, 100, 2024, 9999, 10000, 999, 1000000, 1000001] t5, wrap64 (1 + t9)]⟩)
       else none)
      else none
    else if t2 = 2 then (law8_within (wrap64 (n0.tdiv 8), 18)).bind fun t6 => if 0 ≤ t6 then (if t6 < 18 then (if rd [0, 1, 2, 5, 12, 13, 24, 29, 31, 60, 99, 100, 2024, 9999, 10000, 999, 1000000, 1000001] t6 ≥ 10 then (if wrap64 ((rd [0, 1, 2, 5, 12, 13, 24, 29, 31, 60, 99, 100, 2024, 9999, 10000, 999, 1000000, 1000001] t6).tdiv 10) ≥ 10 then (if wrap64 ((wrap64 ((rd [0, 1, 2, 5, 12, 13, 24, 29, 31, 60, 99, 100, 2024, 9999, 10000, 999, 1000000, 1000001] t6).tdiv 10)).tdiv 10) ≥ 10 then (if wrap64 ((wrap64 ((wrap64 ((rd [0, 1, 2, 5, 12, 13, 24, 29, 31, 60, 99, 100, 2024, 9999, 10000, 999, 1000000, 1000001] t6).tdiv 10)).tdiv 10)).tdiv 10) ≥ 10 then (if wrap64 ((wrap64 ((wrap64 ((wrap64 ((rd [0, 1, 2, 5, 12, 13, 24, 29, 31, 60, 99, 100, 2024, 9999, 10000, 999, 1000000, 1000001] t6).tdiv 10)).tdiv 10)).tdiv 10)).tdiv 10) ≥ 10 then (if wrap64 ((wrap64 ((wrap64 ((wrap64 ((wrap64 ((rd [0, 1, 2, 5, 12, 13, 24, 29, 31, 60, 99, 100, 2024, 9999, 10000, 999, 1000000, 1000001] t6).tdiv 10)).tdiv 10)).tdiv 10)).tdiv 10)).tdiv 10) ≥ 10 then (if wrap64 ((wrap64 ((wrap64 ((wrap64 ((wrap64 ((wrap64 ((rd [0, 1, 2, 5, 12, 13, 24, 29, 31, 60, 99, 100, 2024, 9999, 10000, 999, 1000000, 1000001] t6).tdiv 10)).tdiv 10)).tdiv 10)).tdiv 10)).tdiv 10)).tdiv 10) ≥ 10 then (if wrap64 ((wrap64 ((wrap64 ((wrap64 ((wrap64 ((wrap64 ((wrap64 ((rd [0, 1, 2, 5, 12, 13, 24, 29, 31, 60, 99, 100, 2024, 9999, 10000, 999, 1000000, 1000001] t6).tdiv 10)).tdiv 10)).tdiv 10)).tdiv 10)).tdiv 10)).tdiv 10)).tdiv 10) ≥ 10 then (if wrap64 ((wrap64 ((wrap64 ((wrap64 ((wrap64 ((wrap64 ((wrap64 ((wrap64 ((rd [0, 1, 2, 5, 12, 13, 24, 29, 31, 60, 99, 100, 2024, 9999, 10000, 999, 1000000, 1000001] t6).tdiv 10)).tdiv 10)).tdiv 10)).tdiv 10)).tdiv 10)).tdiv 10)).tdiv 10)).tdiv 10) ≥ 10 then none
                 else (law8_within (wrap64 ((wrap64 (n0.tdiv 8)).tdiv 18), 2)).bind fun t18 => K ⟨1, [rd [0, 1, 2, 5, 12, 13, 24, 29, 31, 60, 99, 100, 2024, 9999, 10000, 999, 1000000, 1000001] t6, wrap64 (9 + t18)]⟩)
                else (law8_within (wrap64 ((wrap64 (n0.tdiv 8)).tdiv 18), 2)).bind fun t17 => K ⟨1, [rd [0, 1, 2, 5, 12, 13, 24, 29, 31, 60, 99, 100, 2024, 9999, 10000, 999, 1000000, 1000001] t6, wrap64 (8 + t17)]⟩)
               else (law8_within (wrap64 ((wrap64 (n0.tdiv 8)).tdiv 18), 2)).bind fun t16 => K ⟨1, [rd [0, 1, 2, 5, 12, 13, 24, 29, 31, 60, 99, 100, 2024, 9999, 10000, 999, 1000000, 1000001] t6, wrap64 (7 + t16)]⟩)
              else (law8_within (wrap64 ((wrap64 (n0.tdiv 8)).tdiv 18), 2)).bind fun t15 => K ⟨1, [rd [0, 1, 2, 5, 12, 13, 24, 29, 31, 60, 99, 100, 2024, 9999, 10000, 999, 1000000, 1000001] t6, wrap64 (6 + t15)]⟩)
             else (law8_within (wrap64 ((wrap64 (n0.tdiv 8)).tdiv 18), 2)).bind fun t14 => K ⟨1, [rd [0, 1, 2, 5, 12, 13, 24, 29, 31, 60, 99, 100, 2024, 9999, 10000, 999, 1000000, 1000001] t6, wrap64 (5 + t14)]⟩)
            else (law8_within (wrap64 ((wrap64 (n0.tdiv 8)).tdiv 18), 2)).bind fun t13 => K ⟨1, [rd [0, 1, 2, 5, 12, 13, 24, 29, 31, 60, 99, 100, 2024, 9999, 10000, 999, 1000000, 1000001] t6, wrap64 (4 + t13)]⟩)
           else (law8_within (wrap64 ((wrap64 (n0.tdiv 8)).tdiv 18), 2)).bind fun t12 => K ⟨1, [rd [0, 1, 2, 5, 12, 13, 24, 29, 31, 60, 99, 100, 2024, 9999, 10000, 999, 1000000, 1000001] t6, wrap64 (3 + t12)]⟩)
          else (law8_within (wrap64 ((wrap64 (n0.tdiv 8)).tdiv 18), 2)).bind fun t11 => K ⟨1, [rd [0, 1, 2, 5, 12, 13, 24, 29, 31, 60, 99, 100, 2024, 9999, 10000, 999, 1000000, 1000001] t6, wrap64 (2 + t11)]⟩)
         else (law8_within (wrap64 ((wrap64 (n0.tdiv 8)).tdiv 18), 2)).bind fun t10 => K ⟨1, [rd [0, 1, 2, 5, 12, 13, 24, 29, 31, 60, 99, 100, 2024, 9999, 10000, 999, 1000000, 1000001] t6, wrap64 (1 + t10)]⟩)
        else none)
       else none
     else if t2 = 3 then (law8_within (wrap64 (n0.tdiv 8), 14)).bind fun t7 => if 0 ≤ t7 then (if t7 < 14 then K ⟨2, [rd [0, 1, 2, 3, 4, 6, 7, -1, -2, 12, 60, 9782, 3920, 1073741824] t7]⟩
         else none)
        else none
      else if t2 = 4 then (law8_within (wrap64 (n0.tdiv 8), 14)).bind fun t8 => if 0 ≤ t8 then (if t8 < 14 then K ⟨2, [rd [0, 1, 2, 3, 4, 6, 7, -1, -2, 12, 60, 9782, 3920, 1073741824] t8]⟩
          else none)
         else none
       else if t2 = 5 then K ⟨3, []⟩
        else (law8_Value (wrap64 (n0.tdiv 8), wrap64 ((wrap64 (n0.tdiv 8)).tdiv 3), wrap64 ((wrap64 (n0.tdiv 8)).tdiv 5))).bind fun t9 => K ⟨t9.f0, t9.f1⟩
set_option maxRecDepth 100000 in
theorem law8_Child.nat {γ : Type} (g : (S27) → Option γ) (law8_within : (Int × Int) → Option (Int)) (law8_Value : (Int × Int × Int) → Option (S27)) (n0 : Int) : (law8_Child.t some law8_within law8_Value n0).bind g = law8_Child.t g law8_within law8_Value n0 := by
  unfold law8_Child.t
  repeat' first | exact rfl | refine nat_i ?_ ?_ | refine nat_b ?_ ?_ | refine nat_o (fun _ => ?_) | refine nat_m ?_ (fun _ => ?_)
set_option maxRecDepth 100000 in
theorem law8_Child.run (law8_within : (Int × Int) → Option (Int)) (law8_Value : (Int × Int × Int) → Option (S27)) (n0 : Int) : run ⟨[(18, sp (oc sI (o1 sI)) (o1 sI) law8_within), (28, sp (oc sI (oc sI (o1 sI))) (o1 s1) law8_Value)], []⟩ 9 Try.f19 ((o1 sI).enc n0) = law8_Child.t (fun b => some (.ret (packD ((o1 s1).enc b)))) law8_within law8_Value n0 := by kernel_rfl
noncomputable def law8_Child.F (a : Int) : Option (S27) := law8_Child.t some interlocutorlaw8_within.F law8_Value.F a
theorem law8_Child.good : Good 19 (sp (o1 sI) (o1 s1) law8_Child.F) := good_tree _ _ _ (Ok.cons interlocutorlaw8_within.good (Ok.cons law8_Value.good Ok.nil)) 9 (fn := Try.f19) (by kernel_rfl) (by kernel_rfl) (by kernel_rfl) fun a => (law8_Child.nat _ interlocutorlaw8_within.F law8_Value.F a).trans (law8_Child.run interlocutorlaw8_within.F law8_Value.F a).symm
noncomputable def law8_wants.t {γ : Type} (K : (Int) → Option γ) (law8_within : (Int × Int) → Option (Int)) (n0 : Int) (n1 : Int) : Option γ :=
  if n0 = 3 then (law8_within (n1, 2)).bind fun t3 => K (wrap64 (2 + t3))
  else if n0 = 4 then (law8_within (n1, 2)).bind fun t4 => K (wrap64 (2 + t4))
   else if n0 = 10 then (law8_within (n1, 6)).bind fun t5 => K (wrap64 (1 + t5))
    else if 0 ≤ n0 then (if n0 < 16 then K (rd [1, 3, 2, 2, 2, 2, 3, 1, 1, 2, 1, 1, 2, 2, 2, 2] n0)
      else none)
     else none
set_option maxRecDepth 100000 in
theorem law8_wants.nat {γ : Type} (g : (Int) → Option γ) (law8_within : (Int × Int) → Option (Int)) (n0 : Int) (n1 : Int) : (law8_wants.t some law8_within n0 n1).bind g = law8_wants.t g law8_within n0 n1 := by
  unfold law8_wants.t
  repeat' first | exact rfl | refine nat_i ?_ ?_ | refine nat_b ?_ ?_ | refine nat_o (fun _ => ?_) | refine nat_m ?_ (fun _ => ?_)
set_option maxRecDepth 100000 in
theorem law8_wants.run (law8_within : (Int × Int) → Option (Int)) (n0 : Int) (n1 : Int) : run ⟨[(18, sp (oc sI (o1 sI)) (o1 sI) law8_within)], []⟩ 0 Try.f20 ((oc sI (o1 sI)).enc (n0, n1)) = law8_wants.t (fun b => some (.ret (packD ((o1 sI).enc b)))) law8_within n0 n1 := by kernel_rfl
noncomputable def law8_wants.F (a : Int × Int) : Option (Int) := law8_wants.t some interlocutorlaw8_within.F a.1 a.2
theorem law8_wants.good : Good 20 (sp (oc sI (o1 sI)) (o1 sI) law8_wants.F) := good_tree _ _ _ (Ok.cons interlocutorlaw8_within.good Ok.nil) 0 (fn := Try.f20) (by kernel_rfl) (by kernel_rfl) (by kernel_rfl) fun a => (law8_wants.nat _ interlocutorlaw8_within.F a.1 a.2).trans (law8_wants.run interlocutorlaw8_within.F a.1 a.2).symm
end Ev
end Go.Proofs.Ytldfljlklfhjkaa.PE
