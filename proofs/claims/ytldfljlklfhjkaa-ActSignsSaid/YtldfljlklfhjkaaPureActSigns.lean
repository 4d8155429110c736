/- Each sign has its value: the plain statement behind the row. Conditions: none. -/
import Derived.Test.YtldfljlklfhjkaaPSgx6
namespace Go.Proofs.Ytldfljlklfhjkaa.Pure
open Go.RowKit Go.Proofs.Ytldfljlklfhjkaa.PSg Go.Proofs.YtldfljlklfhjkaaW.PrintWords Go.Proofs.YtldfljlklfhjkaaW.PrintLast

theorem within_some (a n : Int) (h : n ≠ 0) : ∃ x, interlocutorlaw8_within.f a n = some x := by
  unfold interlocutorlaw8_within.f
  rw [if_neg h]
  by_cases c : Int.tmod a n < 0
  · rw [if_pos c]; exact ⟨_, rfl⟩
  · rw [if_neg c]; exact ⟨_, rfl⟩
theorem order_same (a : Int) : interlocutorref10_order.f a a = some 0 := by
  unfold interlocutorref10_order.f
  rw [if_neg (by omega), if_neg (by omega)]
theorem cmp_none (k : Int) : interlocutorref10_Cmp.f 4 k [] k [] = some 0 := by
  simp [interlocutorref10_Cmp.f, interlocutorref10_Cmp.l0, order_same]
theorem cmp_one (k a : Int) : interlocutorref10_Cmp.f 4 k [a] k [a] = some 0 := by
  simp [interlocutorref10_Cmp.f, interlocutorref10_Cmp.l0, order_same, wrap64, rd]
theorem cmp_two (k a b : Int) : interlocutorref10_Cmp.f 4 k [a, b] k [a, b] = some 0 := by
  simp [interlocutorref10_Cmp.f, interlocutorref10_Cmp.l0, order_same, wrap64, rd]
theorem ActSigns : interlocutorlaw8_ActSigns.Pure := by
  intro a0 a1 a2 _ _ _
  refine ⟨4, ?_⟩
  obtain ⟨x, hx⟩ := within_some a0 61 (by decide)
  obtain ⟨y, hy⟩ := within_some a2 18 (by decide)
  unfold interlocutorlaw8_ActSigns.f
  simp only [interlocutorlaw8_known.f, hx, hy, Option.bind_some, if_true]
  unfold act_Sign.f interlocutorref8_Sign.f
  by_cases c : x = 0
  · simp only [if_pos c, Option.bind_some, cmp_two]; rfl
  · by_cases d : x < 50
    · simp only [if_neg c, if_pos d, Option.bind_some, cmp_one]; rfl
    · simp only [if_neg c, if_neg d, Option.bind_some, cmp_none]; rfl

end Go.Proofs.Ytldfljlklfhjkaa.Pure
