/- ActDoes, walked: its two loops are told by their rounds, its other code by the evaluator. Conditions: that the callees answer. -/
import Derived.Test.YtldfljlklfhjkaaPDl1
namespace Go.Proofs.Ytldfljlklfhjkaa.PE
open Go.RowKit Go.Proofs.YtldfljlklfhjkaaW.PrintWords
set_option linter.unusedVariables false
set_option linter.unusedSimpArgs false
namespace Ev
noncomputable def sq1 : Code → Code
  | .seq x _ => x
  | _ => .skip
noncomputable def sq2 : Code → Code
  | .seq _ y => y
  | _ => .skip
noncomputable def bkC : Code → Code
  | .block _ x => x
  | _ => .skip
noncomputable def lpC : Code → Code
  | .loop x => x
  | _ => .skip
/-- the law's code, in its parts -/
noncomputable def adC : Code := Try.f3.body.getD .skip
noncomputable def ad0 : Code := sq1 adC
noncomputable def ad1 : Code := sq1 (sq2 adC)
noncomputable def ad3 : Code := sq1 (sq2 (sq2 adC))
noncomputable def adL1 : Code := sq1 (sq2 (sq2 (sq2 adC)))
noncomputable def adB1 : Code := lpC (bkC (sq2 adL1))
noncomputable def adR : Code := sq2 (sq2 (sq2 (sq2 adC)))
noncomputable def ad11 : Code := sq1 adR
noncomputable def adL2 : Code := sq1 (sq2 adR)
noncomputable def adB2 : Code := lpC (bkC (sq2 adL2))
noncomputable def adE : Code := sq2 (sq2 adR)
noncomputable def adΓ (known : Unit → Option Bool) (within : Int × Int → Option Int) (child : Int → Option S27) (wants : Int × Int → Option Int) (ref_ : Int → Option Mom) (act_Do ref8_Do : S27 × List S27 × Mom → Option (S27 × Bool)) (cmp : S27 × S27 → Option Int) (right : S27 → Option Bool) : Ctx :=
  ⟨[(17, sp o0 (o1 sB) known), (18, sp (oc sI (o1 sI)) (o1 sI) within), (19, sp (o1 sI) (o1 s1) child), (20, sp (oc sI (o1 sI)) (o1 sI) wants), (21, sp (o1 sI) (o1 sM) ref_), (22, sp (oc s1 (oc sV (o1 sM))) (oc s1 (o1 sB)) act_Do), (23, sp (oc s1 (oc sV (o1 sM))) (oc s1 (o1 sB)) ref8_Do), (24, sp (oc s1 (o1 s1)) (o1 sI) cmp), (25, sp (o1 s1) (o1 sB) right)], [47, 75]⟩
abbrev I (n : Int) : Ce := .int .i64 n
noncomputable def stt (l : List D) (bx : List (Nat × BoxC)) (ow : List (Nat × Row)) : St := ⟨l ++ List.replicate (115 - l.length) .any, bx, ow⟩
/-- before the first child -/
noncomputable def adA0 (op : Int) (ns ps : List Int) (n : Int) : St := stt [.one (.ce (I op)), .one (.ce (.ints false ns)), .one (.ce (.ints false ps)), .one (.ce (I n)), .any, .any, .any, .any, .one (.ce (.bool false)), .one (.ce (.ints true [])), .one (.ce (I 0)), .any, .any, .any, .any, .any, .any, .any, .any, .any] [] []
/-- behind some children -/
noncomputable def adA (op : Int) (ns ps : List Int) (n i k : Int) (l : List S27) : St := stt [.one (.ce (I op)), .one (.ce (.ints false ns)), .one (.ce (.ints false ps)), .one (.ce (I n)), .any, .any, .any, .any, .one (.ce (.bool false)), .one (.ce (.own 47)), .one (.ce (I i)), .one (.ce (I k)), .any, .any, .any, .any, .any, .any, .any, .any] [] [(47, .vals l)]
noncomputable def opsC : Code → Array Oper
  | .region _ ops _ => ops
  | _ => #[]
noncomputable def ad5 : Array Oper := opsC (sq1 (sq1 adB1))
noncomputable def adP : List Oper := ad5.toList.take 4
noncomputable def adQ : List Oper := ad5.toList.drop 4
/-- a round, behind the sum that the test compares with -/
noncomputable def rest1 (Γ : Ctx) (s : St) (k : Ex → St → Res) : Res := denOps Γ ad5 adQ s fun s => thn (den Γ 7 (sq2 (sq1 adB1))) (thn (den Γ 7 (sq2 adB1)) k) .normal s
noncomputable def adA0m (op : Int) (ns ps : List Int) (n m x : Int) : St := stt [.one (.ce (I op)), .one (.ce (.ints false ns)), .one (.ce (.ints false ps)), .one (.ce (I n)), .any, .any, .any, .any, .one (.ce (.bool false)), .one (.ce (.ints true [])), .one (.ce (I 0)), .any, .any, .any, .any, .any, .any, .any, .any, .any, .any, .any, .one (.ce (I 0)), .one (.ce (.ints false ns)), .one (.ce (I x)), .one (.ce (I m))] [] []
noncomputable def adAm (op : Int) (ns ps : List Int) (n i k : Int) (l : List S27) (m x : Int) : St := stt [.one (.ce (I op)), .one (.ce (.ints false ns)), .one (.ce (.ints false ps)), .one (.ce (I n)), .any, .any, .any, .any, .one (.ce (.bool false)), .one (.ce (.own 47)), .one (.ce (I i)), .one (.ce (I k)), .any, .any, .any, .any, .any, .any, .any, .any, .any, .any, .one (.ce (I i)), .one (.ce (.ints false ns)), .one (.ce (I x)), .one (.ce (I m))] [] [(47, .vals l)]
/-- behind the children, ahead of the places -/
noncomputable def adPl0 (op : Int) (ns ps : List Int) (n i k : Int) (l : List S27) (o : Int) : St := stt [.one (.ce (I op)), .one (.ce (.ints false ns)), .one (.ce (.ints false ps)), .one (.ce (I n)), .any, .any, .any, .any, .one (.ce (.bool false)), .one (.ce (.own 47)), .one (.ce (I i)), .one (.ce (I k)), .box 12 0, .one (.ce (I 0)), .any, .any, .any, .any, .any, .any] [(12, ⟨30, [I o, .ints true []]⟩)] [(47, .vals l)]
noncomputable def adPl (op : Int) (ns ps : List Int) (n i k : Int) (l : List S27) (o j q : Int) (p : List Int) : St := stt [.one (.ce (I op)), .one (.ce (.ints false ns)), .one (.ce (.ints false ps)), .one (.ce (I n)), .any, .any, .any, .any, .one (.ce (.bool false)), .one (.ce (.own 47)), .one (.ce (I i)), .one (.ce (I k)), .box 12 0, .one (.ce (I j)), .one (.ce (I q)), .any, .any, .any, .any, .any] [(12, ⟨30, [I o, .own 75]⟩)] [(75, .ints p), (47, .vals l)]
theorem ad_code : adC = .seq ad0 (.seq ad1 (.seq ad3 (.seq (.seq (sq1 adL1) (.block 0 (.loop adB1))) (.seq ad11 (.seq (.seq (sq1 adL2) (.block 2 (.loop adB2))) adE))))) := by kernel_rfl
theorem ad_B1 : adB1 = .seq (.seq (.region 5 ad5 false) (sq2 (sq1 adB1))) (sq2 adB1) := by kernel_rfl
theorem ad_ops : ad5.toList = adP ++ adQ := (List.take_append_drop 4 _).symm
theorem ad_round (Γ : Ctx) (s : St) (k : Ex → St → Res) : den Γ 7 adB1 s k = denOps Γ ad5 adP s fun s => rest1 Γ s k := by
  have e : den Γ 7 adB1 s k = denOps Γ ad5 ad5.toList s fun s => thn (den Γ 7 (sq2 (sq1 adB1))) (thn (den Γ 7 (sq2 adB1)) k) .normal s := by
    conv => lhs; rw [ad_B1]
    rfl
  rw [e, ad_ops, denOps_append]
  rfl
/-- the law's code, its loops by rounds -/
noncomputable def adF (Γ : Ctx) : St → (Ex → St → Res) → Res :=
  seqF (den Γ 7 ad0) (seqF (den Γ 7 ad1) (seqF (den Γ 7 ad3) (seqF (seqF (den Γ 7 (sq1 adL1)) (fgS 20 (blkF 0 (loopF 7 20 (den Γ 7 adB1))))) (seqF (den Γ 7 ad11) (seqF (seqF (den Γ 7 (sq1 adL2)) (fgS 20 (blkF 2 (loopF 7 20 (den Γ 7 adB2))))) (den Γ 7 adE))))))
theorem adF_ok {Γ : Ctx} (hΓ : Ok Γ) (S0 : Sc) (w0 : World) (r : Out) : COk S0 w0 r adC (adF Γ) := by
  rw [ad_code]
  exact .seq (den_ok hΓ 7 _) (.seq (den_ok hΓ 7 _) (.seq (den_ok hΓ 7 _) (.seq (.seq (den_ok hΓ 7 _) (.fgS (.block (.loop (den_ok hΓ 7 _) 7 20)) 20)) (.seq (den_ok hΓ 7 _) (.seq (.seq (den_ok hΓ 7 _) (.fgS (.block (.loop (den_ok hΓ 7 _) 7 20)) 20)) (den_ok hΓ 7 _))))))
theorem ad_pre (known : Unit → Option Bool) (within : Int × Int → Option Int) (child : Int → Option S27) (wants : Int × Int → Option Int) (ref_ : Int → Option Mom) (act_Do ref8_Do : S27 × List S27 × Mom → Option (S27 × Bool)) (cmp : S27 × S27 → Option Int) (right : S27 → Option Bool) (op : Int) (ns ps : List Int) (n : Int) (X : St → (Ex → St → Res) → Res) (Y : St → (Ex → St → Res) → Res) (K : Ex → St → Res) : seqF (den (adΓ known within child wants ref_ act_Do ref8_Do cmp right) 7 ad0) (seqF (den (adΓ known within child wants ref_ act_Do ref8_Do cmp right) 7 ad1) (seqF (den (adΓ known within child wants ref_ act_Do ref8_Do cmp right) 7 ad3) (seqF (seqF (den (adΓ known within child wants ref_ act_Do ref8_Do cmp right) 7 (sq1 adL1)) (fgS 20 X)) Y))) (init Try.f3 ((oc sI (oc sL (oc sL (o1 sI)))).enc (op, ns, ps, n))) K = (known ()).bind fun t => bm t (X (adA0 op ns ps n) (thn Y K)) (K .ret (stt [.one (.ce (I op)), .one (.ce (.ints false ns)), .one (.ce (.ints false ps)), .one (.ce (I n)), .any, .any, .any, .any, .one (.ce (.bool false)), .any, .any, .any, .any, .any, .any, .any, .any, .any, .any, .any, .one (.ce (.bool false)), .one (.ce (.bool true))] [] [])) := by kernel_rfl
theorem ad_p0 (known : Unit → Option Bool) (within : Int × Int → Option Int) (child : Int → Option S27) (wants : Int × Int → Option Int) (ref_ : Int → Option Mom) (act_Do ref8_Do : S27 × List S27 × Mom → Option (S27 × Bool)) (cmp : S27 × S27 → Option Int) (right : S27 → Option Bool) (op : Int) (ns ps : List Int) (n : Int) (k : St → Res) : denOps (adΓ known within child wants ref_ act_Do ref8_Do cmp right) ad5 adP (adA0 op ns ps n) k = k (adA0m op ns ps n (wrap64 (1 + (ns.length : Int))) (ns.length : Int)) := by kernel_rfl
theorem ad_p (known : Unit → Option Bool) (within : Int × Int → Option Int) (child : Int → Option S27) (wants : Int × Int → Option Int) (ref_ : Int → Option Mom) (act_Do ref8_Do : S27 × List S27 × Mom → Option (S27 × Bool)) (cmp : S27 × S27 → Option Int) (right : S27 → Option Bool) (op : Int) (ns ps : List Int) (n : Int) (i j : Int) (l : List S27) (k : St → Res) : denOps (adΓ known within child wants ref_ act_Do ref8_Do cmp right) ad5 adP (adA op ns ps n i j l) k = k (adAm op ns ps n i j l (wrap64 (1 + (ns.length : Int))) (ns.length : Int)) := by kernel_rfl
theorem ad_r0 (known : Unit → Option Bool) (within : Int × Int → Option Int) (child : Int → Option S27) (wants : Int × Int → Option Int) (ref_ : Int → Option Mom) (act_Do ref8_Do : S27 × List S27 × Mom → Option (S27 × Bool)) (cmp : S27 × S27 → Option Int) (right : S27 → Option Bool) (op : Int) (ns ps : List Int) (n : Int) (m x : Int) (K : Ex → St → Res) : rest1 (adΓ known within child wants ref_ act_Do ref8_Do cmp right) (adA0m op ns ps n m x) (fun e s => K e (fg 20 s)) =
    if 0 < m then (if 0 < (ns.length : Int) then (if 0 < (ns.length : Int) then (within (rd ns 0, 1099511627776)).bind fun t5 => (child t5).bind fun t6 => K .normal (adA op ns ps n 1 t5 [t6]) else none)
      else (child 0).bind fun t4 => K .normal (adA op ns ps n 1 0 [t4]))
    else K (.exit 0) (adA0 op ns ps n) := by kernel_rfl
theorem ad_r (known : Unit → Option Bool) (within : Int × Int → Option Int) (child : Int → Option S27) (wants : Int × Int → Option Int) (ref_ : Int → Option Mom) (act_Do ref8_Do : S27 × List S27 × Mom → Option (S27 × Bool)) (cmp : S27 × S27 → Option Int) (right : S27 → Option Bool) (op : Int) (ns ps : List Int) (n : Int) (i k : Int) (l : List S27) (m x : Int) (K : Ex → St → Res) : rest1 (adΓ known within child wants ref_ act_Do ref8_Do cmp right) (adAm op ns ps n i k l m x) (fun e s => K e (fg 20 s)) =
    if i < m then (if i < 6 then (if i < (ns.length : Int) then (if 0 ≤ i then (if i < (ns.length : Int) then (within (rd ns i, 1099511627776)).bind fun t7 => (child t7).bind fun t8 => if l.length + 1 ≤ 1000000 then K .normal (adA op ns ps n (wrap64 (i + 1)) t7 (l ++ [t8])) else none else none) else none)
        else (child i).bind fun t5 => if l.length + 1 ≤ 1000000 then K .normal (adA op ns ps n (wrap64 (i + 1)) i (l ++ [t5])) else none)
      else K (.exit 0) (adA op ns ps n i k l))
    else K (.exit 0) (adA op ns ps n i k l) := by kernel_rfl
theorem ad_mid (known : Unit → Option Bool) (within : Int × Int → Option Int) (child : Int → Option S27) (wants : Int × Int → Option Int) (ref_ : Int → Option Mom) (act_Do ref8_Do : S27 × List S27 × Mom → Option (S27 × Bool)) (cmp : S27 × S27 → Option Int) (right : S27 → Option Bool) (op : Int) (ns ps : List Int) (n : Int) (i k : Int) (l : List S27) (X Z : St → (Ex → St → Res) → Res) (K : Ex → St → Res) : seqF (den (adΓ known within child wants ref_ act_Do ref8_Do cmp right) 7 ad11) (seqF (seqF (den (adΓ known within child wants ref_ act_Do ref8_Do cmp right) 7 (sq1 adL2)) (fgS 20 X)) Z) (adA op ns ps n i k l) K = (within (op, 16)).bind fun t => X (adPl0 op ns ps n i k l t) (thn Z K) := by kernel_rfl
theorem ad_b0 (known : Unit → Option Bool) (within : Int × Int → Option Int) (child : Int → Option S27) (wants : Int × Int → Option Int) (ref_ : Int → Option Mom) (act_Do ref8_Do : S27 × List S27 × Mom → Option (S27 × Bool)) (cmp : S27 × S27 → Option Int) (right : S27 → Option Bool) (op : Int) (ns ps : List Int) (n : Int) (i k : Int) (l : List S27) (o : Int) (K : Ex → St → Res) : fgK 20 (den (adΓ known within child wants ref_ act_Do ref8_Do cmp right) 7 adB2) (adPl0 op ns ps n i k l o) K =
    (wants (o, n)).bind fun t2 => if 0 < t2 then (if 0 < (ps.length : Int) then (if 0 < (ps.length : Int) then (within (rd ps 0, (l.length : Int))).bind fun t6 => K .normal (adPl op ns ps n i k l o 1 (rd ps 0) [t6]) else none)
        else (within (0, (l.length : Int))).bind fun t5 => K .normal (adPl op ns ps n i k l o 1 0 [t5]))
      else K (.exit 2) (adPl0 op ns ps n i k l o) := by kernel_rfl
theorem ad_b (known : Unit → Option Bool) (within : Int × Int → Option Int) (child : Int → Option S27) (wants : Int × Int → Option Int) (ref_ : Int → Option Mom) (act_Do ref8_Do : S27 × List S27 × Mom → Option (S27 × Bool)) (cmp : S27 × S27 → Option Int) (right : S27 → Option Bool) (op : Int) (ns ps : List Int) (n : Int) (i k : Int) (l : List S27) (o j q : Int) (p : List Int) (K : Ex → St → Res) : fgK 20 (den (adΓ known within child wants ref_ act_Do ref8_Do cmp right) 7 adB2) (adPl op ns ps n i k l o j q p) K =
    (wants (o, n)).bind fun t2 => if j < t2 then (if j < (ps.length : Int) then (if 0 ≤ j then (if j < (ps.length : Int) then (within (rd ps j, (l.length : Int))).bind fun t7 => if p.length + 1 ≤ 1000000 then K .normal (adPl op ns ps n i k l o (wrap64 (j + 1)) (rd ps j) (p ++ [t7])) else none else none) else none)
        else (within (j, (l.length : Int))).bind fun t5 => if p.length + 1 ≤ 1000000 then K .normal (adPl op ns ps n i k l o (wrap64 (j + 1)) j (p ++ [t5])) else none)
      else K (.exit 2) (adPl op ns ps n i k l o j q p) := by kernel_rfl
theorem ad_fin (known : Unit → Option Bool) (within : Int × Int → Option Int) (child : Int → Option S27) (wants : Int × Int → Option Int) (ref_ : Int → Option Mom) (act_Do ref8_Do : S27 × List S27 × Mom → Option (S27 × Bool)) (cmp : S27 × S27 → Option Int) (right : S27 → Option Bool) (op : Int) (ns ps : List Int) (n : Int) (i k : Int) (l : List S27) (o j q : Int) (p : List Int) : den (adΓ known within child wants ref_ act_Do ref8_Do cmp right) 7 adE (adPl op ns ps n i k l o j q p) (finK Try.f3) =
    ((ref_ n).bind fun t2 => (act_Do (⟨o, p⟩, l, t2)).bind fun t3 => bm t3.2
      ((ref8_Do (⟨o, p⟩, l, t2)).bind fun t5 => bm t5.2
        ((cmp (t3.1, t5.1)).bind fun t7 => if t7 = 0 then (if o = 0 then some (.ret (bo true)) else (right t3.1).bind fun t10 => bm t10 (some (.ret (bo true))) (some (.ret (bo false)))) else some (.ret (bo false)))
        (some (.ret (bo false))))
      ((ref8_Do (⟨o, p⟩, l, t2)).bind fun t5 => bm t5.2
        (some (.ret (bo false)))
        ((cmp (t3.1, t5.1)).bind fun t7 => if t7 = 0 then some (.ret (bo true)) else some (.ret (bo false))))) := by kernel_rfl
theorem ad_a0 (known : Unit → Option Bool) (within : Int × Int → Option Int) (child : Int → Option S27) (wants : Int × Int → Option Int) (ref_ : Int → Option Mom) (act_Do ref8_Do : S27 × List S27 × Mom → Option (S27 × Bool)) (cmp : S27 × S27 → Option Int) (right : S27 → Option Bool) (op : Int) (ns ps : List Int) (n : Int) (K : Ex → St → Res) : fgK 20 (den (adΓ known within child wants ref_ act_Do ref8_Do cmp right) 7 adB1) (adA0 op ns ps n) K =
    if 0 < wrap64 (1 + (ns.length : Int)) then (if 0 < (ns.length : Int) then (if 0 < (ns.length : Int) then (within (rd ns 0, 1099511627776)).bind fun t5 => (child t5).bind fun t6 => K .normal (adA op ns ps n 1 t5 [t6]) else none)
      else (child 0).bind fun t4 => K .normal (adA op ns ps n 1 0 [t4]))
    else K (.exit 0) (adA0 op ns ps n) :=
  (ad_round _ _ _).trans ((ad_p0 known within child wants ref_ act_Do ref8_Do cmp right op ns ps n _).trans (ad_r0 known within child wants ref_ act_Do ref8_Do cmp right op ns ps n _ _ K))
theorem ad_a (known : Unit → Option Bool) (within : Int × Int → Option Int) (child : Int → Option S27) (wants : Int × Int → Option Int) (ref_ : Int → Option Mom) (act_Do ref8_Do : S27 × List S27 × Mom → Option (S27 × Bool)) (cmp : S27 × S27 → Option Int) (right : S27 → Option Bool) (op : Int) (ns ps : List Int) (n : Int) (i k : Int) (l : List S27) (K : Ex → St → Res) : fgK 20 (den (adΓ known within child wants ref_ act_Do ref8_Do cmp right) 7 adB1) (adA op ns ps n i k l) K =
    if i < wrap64 (1 + (ns.length : Int)) then (if i < 6 then (if i < (ns.length : Int) then (if 0 ≤ i then (if i < (ns.length : Int) then (within (rd ns i, 1099511627776)).bind fun t7 => (child t7).bind fun t8 => if l.length + 1 ≤ 1000000 then K .normal (adA op ns ps n (wrap64 (i + 1)) t7 (l ++ [t8])) else none else none) else none)
        else (child i).bind fun t5 => if l.length + 1 ≤ 1000000 then K .normal (adA op ns ps n (wrap64 (i + 1)) i (l ++ [t5])) else none)
      else K (.exit 0) (adA op ns ps n i k l))
    else K (.exit 0) (adA op ns ps n i k l) :=
  (ad_round _ _ _).trans ((ad_p known within child wants ref_ act_Do ref8_Do cmp right op ns ps n i k l _).trans (ad_r known within child wants ref_ act_Do ref8_Do cmp right op ns ps n i k l _ _ K))
end Ev
end Go.Proofs.Ytldfljlklfhjkaa.PE
