/- The contracts of small functions, as the evaluator takes them; written by a program of this session (wip/gengood.py). Conditions: that the plain function answers. -/
import Derived.Test.YtldfljlklfhjkaaPFb1
import Derived.Test.YtldfljlklfhjkaaEvM3
namespace Go.Proofs.Ytldfljlklfhjkaa.PE
open Go.RowKit Go.Proofs.YtldfljlklfhjkaaW.PrintWords Go.Proofs.YtldfljlklfhjkaaW.PrintLast Go.Proofs.YtldfljlklfhjkaaW.PrintMore
set_option linter.unusedVariables false
set_option linter.unusedSimpArgs false
namespace Ev
theorem arr_I {S : Sc} {w : World} {x0 : Int} : ∀ args : Array Value, All2 (Rep1 S w) args.toList [.ce (.int .i64 x0)] → args = #[.int .i64 x0]
  | ⟨[v0]⟩, ⟨h0, _⟩ => by
    obtain rfl : v0 = .int .i64 x0 := h0
    rfl
theorem arr_II {S : Sc} {w : World} {x0 : Int} {x1 : Int} : ∀ args : Array Value, All2 (Rep1 S w) args.toList [.ce (.int .i64 x0), .ce (.int .i64 x1)] → args = #[.int .i64 x0, .int .i64 x1]
  | ⟨[v0, v1]⟩, ⟨h0, h1, _⟩ => by
    obtain rfl : v0 = .int .i64 x0 := h0
    obtain rfl : v1 = .int .i64 x1 := h1
    rfl
theorem arr_III {S : Sc} {w : World} {x0 : Int} {x1 : Int} {x2 : Int} : ∀ args : Array Value, All2 (Rep1 S w) args.toList [.ce (.int .i64 x0), .ce (.int .i64 x1), .ce (.int .i64 x2)] → args = #[.int .i64 x0, .int .i64 x1, .int .i64 x2]
  | ⟨[v0, v1, v2]⟩, ⟨h0, h1, h2, _⟩ => by
    obtain rfl : v0 = .int .i64 x0 := h0
    obtain rfl : v1 = .int .i64 x1 := h1
    obtain rfl : v2 = .int .i64 x2 := h2
    rfl
theorem arr_IIIII {S : Sc} {w : World} {x0 : Int} {x1 : Int} {x2 : Int} {x3 : Int} {x4 : Int} : ∀ args : Array Value, All2 (Rep1 S w) args.toList [.ce (.int .i64 x0), .ce (.int .i64 x1), .ce (.int .i64 x2), .ce (.int .i64 x3), .ce (.int .i64 x4)] → args = #[.int .i64 x0, .int .i64 x1, .int .i64 x2, .int .i64 x3, .int .i64 x4]
  | ⟨[v0, v1, v2, v3, v4]⟩, ⟨h0, h1, h2, h3, h4, _⟩ => by
    obtain rfl : v0 = .int .i64 x0 := h0
    obtain rfl : v1 = .int .i64 x1 := h1
    obtain rfl : v2 = .int .i64 x2 := h2
    obtain rfl : v3 = .int .i64 x3 := h3
    obtain rfl : v4 = .int .i64 x4 := h4
    rfl
theorem arr_IB {S : Sc} {w : World} {x0 : Int} {x1 : Bool} : ∀ args : Array Value, All2 (Rep1 S w) args.toList [.ce (.int .i64 x0), .ce (.bool x1)] → args = #[.int .i64 x0, .bool x1]
  | ⟨[v0, v1]⟩, ⟨h0, h1, _⟩ => by
    obtain rfl : v0 = .int .i64 x0 := h0
    obtain rfl : v1 = .bool x1 := h1
    rfl
theorem arr_BI {S : Sc} {w : World} {x0 : Bool} {x1 : Int} : ∀ args : Array Value, All2 (Rep1 S w) args.toList [.ce (.bool x0), .ce (.int .i64 x1)] → args = #[.bool x0, .int .i64 x1]
  | ⟨[v0, v1]⟩, ⟨h0, h1, _⟩ => by
    obtain rfl : v0 = .bool x0 := h0
    obtain rfl : v1 = .int .i64 x1 := h1
    rfl
noncomputable def dec_Norm.F (a : Int × Int) : Option (Int × Int) := dec_Norm.f a.1 a.2
theorem dec_Norm.good : Good 86 (sp (oc sI (o1 sI)) (oc sI (o1 sI)) dec_Norm.F) := good_of _ _ _ (fn := Try.f86) (by kernel_rfl) (by kernel_rfl) (by kernel_rfl) fun a b hF S w args hS ha => by
  rw [arr_II _ ha]
  exact (dec_Norm.calls a.1 a.2 b.1 b.2 w hF).mono fun e w' ⟨he, hb⟩ => ⟨⟨_, he, _, rfl, rfl, rfl, trivial⟩, hb.below⟩
noncomputable def civil_Add.F (a : Int × Int × Int × Int × Int) : Option (Int × Int × Int × Bool) := civil_Add.f a.1 a.2.1 a.2.2.1 a.2.2.2.1 a.2.2.2.2
theorem civil_Add.good : Good 96 (sp (oc sI (oc sI (oc sI (oc sI (o1 sI))))) (oc sI (oc sI (oc sI (o1 sB)))) civil_Add.F) := good_of _ _ _ (fn := Try.f96) (by kernel_rfl) (by kernel_rfl) (by kernel_rfl) fun a b hF S w args hS ha => by
  rw [arr_IIIII _ ha]
  exact (civil_Add.calls a.1 a.2.1 a.2.2.1 a.2.2.2.1 a.2.2.2.2 b.1 b.2.1 b.2.2.1 b.2.2.2 w hF).mono fun e w' ⟨he, hb⟩ => ⟨⟨_, he, _, rfl, rfl, rfl, rfl, rfl, trivial⟩, hb⟩
noncomputable def civil_Weekday.F (a : Int × Int × Int) : Option (Int) := civil_Weekday.f a.1 a.2.1 a.2.2
theorem civil_Weekday.good : Good 97 (sp (oc sI (oc sI (o1 sI))) (o1 sI) civil_Weekday.F) := good_of _ _ _ (fn := Try.f97) (by kernel_rfl) (by kernel_rfl) (by kernel_rfl) fun a b hF S w args hS ha => by
  rw [arr_III _ ha]
  exact (civil_Weekday.calls a.1 a.2.1 a.2.2 b w hF).mono fun e w' ⟨he, hb⟩ => ⟨⟨_, he, rfl⟩, hb⟩
noncomputable def dec_Join.F (a : Int × Int × Int) : Option (Int × Int × Bool) := dec_Join.f 100 a.1 a.2.1 a.2.2
theorem dec_Join.good : Good 99 (sp (oc sI (oc sI (o1 sI))) (oc sI (oc sI (o1 sB))) dec_Join.F) := good_of _ _ _ (fn := Try.f99) (by kernel_rfl) (by kernel_rfl) (by kernel_rfl) fun a b hF S w args hS ha => by
  rw [arr_III _ ha]
  exact (dec_Join.calls 100 a.1 a.2.1 a.2.2 b.1 b.2.1 b.2.2 w hF).mono fun e w' ⟨he, hb⟩ => ⟨⟨_, he, _, rfl, rfl, rfl, rfl, trivial⟩, hb.below⟩
noncomputable def dec_Scaled.F (a : Int × Int × Int) : Option (Int × Bool) := dec_Scaled.f 100 a.1 a.2.1 a.2.2
theorem dec_Scaled.good : Good 100 (sp (oc sI (oc sI (o1 sI))) (oc sI (o1 sB)) dec_Scaled.F) := good_of _ _ _ (fn := Try.f100) (by kernel_rfl) (by kernel_rfl) (by kernel_rfl) fun a b hF S w args hS ha => by
  rw [arr_III _ ha]
  exact (dec_Scaled.calls 100 a.1 a.2.1 a.2.2 b.1 b.2 w hF).mono fun e w' ⟨he, hb⟩ => ⟨⟨_, he, _, rfl, rfl, rfl, trivial⟩, hb⟩
noncomputable def interlocutorlaw8_within.F (a : Int × Int) : Option (Int) := interlocutorlaw8_within.f a.1 a.2
theorem interlocutorlaw8_within.good : Good 18 (sp (oc sI (o1 sI)) (o1 sI) interlocutorlaw8_within.F) := good_of _ _ _ (fn := Try.f18) (by kernel_rfl) (by kernel_rfl) (by kernel_rfl) fun a b hF S w args hS ha => by
  rw [arr_II _ ha]
  exact (interlocutorlaw8_within.calls a.1 a.2 b w hF).mono fun e w' ⟨he, hb⟩ => ⟨⟨_, he, rfl⟩, hb.below⟩
noncomputable def interlocutorref1_floor.F (a : Int × Int) : Option (Int) := interlocutorref1_floor.f a.1 a.2
theorem interlocutorref1_floor.good : Good 53 (sp (oc sI (o1 sI)) (o1 sI) interlocutorref1_floor.F) := good_of _ _ _ (fn := Try.f53) (by kernel_rfl) (by kernel_rfl) (by kernel_rfl) fun a b hF S w args hS ha => by
  rw [arr_II _ ha]
  exact (interlocutorref1_floor.calls a.1 a.2 b w hF).mono fun e w' ⟨he, hb⟩ => ⟨⟨_, he, rfl⟩, hb.below⟩
noncomputable def interlocutorref1_Days.F (a : Int × Int × Int) : Option (Int) := interlocutorref1_Days.f a.1 a.2.1 a.2.2
theorem interlocutorref1_Days.good : Good 31 (sp (oc sI (oc sI (o1 sI))) (o1 sI) interlocutorref1_Days.F) := good_of _ _ _ (fn := Try.f31) (by kernel_rfl) (by kernel_rfl) (by kernel_rfl) fun a b hF S w args hS ha => by
  rw [arr_III _ ha]
  exact (interlocutorref1_Days.calls a.1 a.2.1 a.2.2 b w hF).mono fun e w' ⟨he, hb⟩ => ⟨⟨_, he, rfl⟩, hb.below⟩
noncomputable def interlocutorref1_Length.F (a : Int × Int) : Option (Int) := interlocutorref1_Length.f a.1 a.2
theorem interlocutorref1_Length.good : Good 54 (sp (oc sI (o1 sI)) (o1 sI) interlocutorref1_Length.F) := good_of _ _ _ (fn := Try.f54) (by kernel_rfl) (by kernel_rfl) (by kernel_rfl) fun a b hF S w args hS ha => by
  rw [arr_II _ ha]
  exact (interlocutorref1_Length.calls a.1 a.2 b w hF).mono fun e w' ⟨he, hb⟩ => ⟨⟨_, he, rfl⟩, hb.below⟩
noncomputable def interlocutorlaw1_Day.F (a : Int × Bool) : Option (Int × Int × Int) := interlocutorlaw1_Day.f a.1 a.2
theorem interlocutorlaw1_Day.good : Good 37 (sp (oc sI (o1 sB)) (oc sI (oc sI (o1 sI))) interlocutorlaw1_Day.F) := good_of _ _ _ (fn := Try.f37) (by kernel_rfl) (by kernel_rfl) (by kernel_rfl) fun a b hF S w args hS ha => by
  rw [arr_IB _ ha]
  exact (interlocutorlaw1_Day.calls a.1 a.2 b.1 b.2.1 b.2.2 w hF).mono fun e w' ⟨he, hb⟩ => ⟨⟨_, he, _, rfl, rfl, rfl, rfl, trivial⟩, hb.below⟩
noncomputable def interlocutorlaw2_Make.F (a : Int × Int) : Option (Int × Int) := interlocutorlaw2_Make.f 100 a.1 a.2
theorem interlocutorlaw2_Make.good : Good 49 (sp (oc sI (o1 sI)) (oc sI (o1 sI)) interlocutorlaw2_Make.F) := good_of _ _ _ (fn := Try.f49) (by kernel_rfl) (by kernel_rfl) (by kernel_rfl) fun a b hF S w args hS ha => by
  rw [arr_II _ ha]
  exact (interlocutorlaw2_Make.calls 100 a.1 a.2 b.1 b.2 w hF).mono fun e w' ⟨he, hb⟩ => ⟨⟨_, he, _, rfl, rfl, rfl, trivial⟩, hb.below⟩
noncomputable def interlocutorref1_Clock.F (a : Int × Int × Int) : Option (Bool) := interlocutorref1_Clock.f a.1 a.2.1 a.2.2
theorem interlocutorref1_Clock.good : Good 51 (sp (oc sI (oc sI (o1 sI))) (o1 sB) interlocutorref1_Clock.F) := good_of _ _ _ (fn := Try.f51) (by kernel_rfl) (by kernel_rfl) (by kernel_rfl) fun a b hF S w args hS ha => by
  rw [arr_III _ ha]
  exact (interlocutorref1_Clock.calls a.1 a.2.1 a.2.2 b w hF).mono fun e w' ⟨he, hb⟩ => ⟨⟨_, he, rfl⟩, hb.below⟩
noncomputable def interlocutorref2_Norm.F (a : Int × Int) : Option (Int × Int) := interlocutorref2_Norm.f 100 a.1 a.2
theorem interlocutorref2_Norm.good : Good 89 (sp (oc sI (o1 sI)) (oc sI (o1 sI)) interlocutorref2_Norm.F) := good_of _ _ _ (fn := Try.f89) (by kernel_rfl) (by kernel_rfl) (by kernel_rfl) fun a b hF S w args hS ha => by
  rw [arr_II _ ha]
  exact (interlocutorref2_Norm.calls 100 a.1 a.2 b.1 b.2 w hF).mono fun e w' ⟨he, hb⟩ => ⟨⟨_, he, _, rfl, rfl, rfl, trivial⟩, hb.below⟩
noncomputable def interlocutorref2_Right.F (a : Int × Int) : Option (Bool) := interlocutorref2_Right.f 100 a.1 a.2
theorem interlocutorref2_Right.good : Good 52 (sp (oc sI (o1 sI)) (o1 sB) interlocutorref2_Right.F) := good_of _ _ _ (fn := Try.f52) (by kernel_rfl) (by kernel_rfl) (by kernel_rfl) fun a b hF S w args hS ha => by
  rw [arr_II _ ha]
  exact (interlocutorref2_Right.calls 100 a.1 a.2 b w hF).mono fun e w' ⟨he, hb⟩ => ⟨⟨_, he, rfl⟩, hb.below⟩
noncomputable def interlocutorref1_Weekday.F (a : Int × Int × Int) : Option (Int) := interlocutorref1_Weekday.f a.1 a.2.1 a.2.2
theorem interlocutorref1_Weekday.good : Good 32 (sp (oc sI (oc sI (o1 sI))) (o1 sI) interlocutorref1_Weekday.F) := good_of _ _ _ (fn := Try.f32) (by kernel_rfl) (by kernel_rfl) (by kernel_rfl) fun a b hF S w args hS ha => by
  rw [arr_III _ ha]
  exact (interlocutorref1_Weekday.calls a.1 a.2.1 a.2.2 b w hF).mono fun e w' ⟨he, hb⟩ => ⟨⟨_, he, rfl⟩, hb.below⟩
noncomputable def interlocutorref2_Ten.F (a : Int) : Option (Int) := interlocutorref2_Ten.f 100 a
theorem interlocutorref2_Ten.good : Good 116 (sp (o1 sI) (o1 sI) interlocutorref2_Ten.F) := good_of _ _ _ (fn := Try.f116) (by kernel_rfl) (by kernel_rfl) (by kernel_rfl) fun a b hF S w args hS ha => by
  rw [arr_I _ ha]
  exact (interlocutorref2_Ten.calls 100 a b w hF).mono fun e w' ⟨he, hb⟩ => ⟨⟨_, he, rfl⟩, hb.below⟩
theorem arr_M {S : Sc} {w : World} {x0 : Int} {x1 : Int} {x2 : Int} {x3 : Int} {x4 : Int} {x5 : Int} : ∀ args : Array Value, All2 (RepC S w) args.toList [.int .i64 x0, .int .i64 x1, .int .i64 x2, .int .i64 x3, .int .i64 x4, .int .i64 x5] → args = #[.int .i64 x0, .int .i64 x1, .int .i64 x2, .int .i64 x3, .int .i64 x4, .int .i64 x5]
  | ⟨[v0, v1, v2, v3, v4, v5]⟩, ⟨h0, h1, h2, h3, h4, h5, _⟩ => by
    obtain rfl : v0 = .int .i64 x0 := h0
    obtain rfl : v1 = .int .i64 x1 := h1
    obtain rfl : v2 = .int .i64 x2 := h2
    obtain rfl : v3 = .int .i64 x3 := h3
    obtain rfl : v4 = .int .i64 x4 := h4
    obtain rfl : v5 = .int .i64 x5 := h5
    rfl
noncomputable def civil_Right.F (a : Mom) : Option Bool := some (rightB a.1 a.2.1 a.2.2.1 a.2.2.2.1 a.2.2.2.2.1 a.2.2.2.2.2)
theorem civil_Right.good : Good 85 (sp (o1 sM) (o1 sB) civil_Right.F) := good_of _ _ _ (fn := Try.f85) (by kernel_rfl) (by kernel_rfl) (by kernel_rfl) fun a b hF S w args hS ha => by
  obtain ⟨l⟩ := args
  match l, ha with
  | [v], ⟨⟨arr, e, hv⟩, _⟩ =>
    have h2 := arr_M arr hv
    subst h2
    subst e
    exact (civil_Right.calls _ _ _ _ _ _ b w hF).mono fun e w' ⟨he, hb⟩ => ⟨⟨_, he, rfl⟩, hb⟩
noncomputable def slices_Clone.F (a : List Int) : Option (List Int) := if a.length ≤ 1000000 then some a else none
theorem slices_Clone.good : Good 58 (sp (o1 sL) (o1 sL) slices_Clone.F) := good_of _ _ _ (fn := Try.f58) (by kernel_rfl) (by kernel_rfl) (by kernel_rfl) fun a b hF S w args hS ha => by
  obtain ⟨l⟩ := args
  match l, ha with
  | [v], ⟨hv, _⟩ =>
    obtain ⟨A, c, e, h1, h2⟩ := hv.1.kd
    subst e
    exact (slices_Clone_int_int.calls A c a b w h2 h1 hF).mono fun e w' ⟨v1, he, hR, hb⟩ => ⟨⟨_, he, SlI.of_R hR hS, nofalse⟩, hb⟩
noncomputable def act_must.F (a : Bool × Int) : Option (Option Unit) := bm a.1 (some (some ())) (some none)
theorem act_must.good : Good 39 (spd (oc sB (o1 sI)) o0 act_must.F) := good_ofd _ _ _ (fn := Try.f39) (by kernel_rfl) (by kernel_rfl) (by kernel_rfl) fun a b hF S w args hS ha => by
  rw [arr_BI _ ha]
  obtain ⟨a0, a1⟩ := a
  cases a0 with
  | true =>
    obtain rfl := Option.some.inj hF
    exact (act_must.calls true a1 w rfl).mono fun e w' ⟨he, hb⟩ => ⟨⟨_, he, _, rfl, trivial⟩, hb.below⟩
  | false =>
    obtain rfl := Option.some.inj hF
    exact (must_no a1 w).mono fun e w' ⟨he, hw⟩ => ⟨⟨_, _, he⟩, hw ▸ Below.refl _ _⟩
end Ev
end Go.Proofs.Ytldfljlklfhjkaa.PE
