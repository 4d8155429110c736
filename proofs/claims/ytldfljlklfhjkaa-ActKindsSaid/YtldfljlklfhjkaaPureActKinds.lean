/- A child of another kind makes nothing: the plain statement behind the row. Conditions: none. -/
import Derived.Test.YtldfljlklfhjkaaPKix18
namespace Go.Proofs.Ytldfljlklfhjkaa.Pure
open Go.RowKit Go.Proofs.Ytldfljlklfhjkaa.PKi Go.Proofs.YtldfljlklfhjkaaW.PrintWords Go.Proofs.YtldfljlklfhjkaaW.PrintLast

theorem within_is (a n : Int) (h : 0 < n) (h2 : n ≤ 9007199254740992) : ∃ x, interlocutorlaw8_within.f a n = some x ∧ 0 ≤ x ∧ x < n := by
  unfold interlocutorlaw8_within.f
  rw [if_neg (by omega)]
  have h0 : Int.tmod a n < n := Int.tmod_lt_of_pos a h
  have h1 : -n < Int.tmod a n := by have := Int.lt_tmod_of_pos a h; omega
  by_cases c : Int.tmod a n < 0
  · rw [if_pos c]; exact ⟨_, rfl, by unfold wrap64; omega, by unfold wrap64; omega⟩
  · rw [if_neg c]; exact ⟨_, rfl, by omega, h0⟩
theorem within1_is (a n : Int) (h : 0 < n) (h2 : n ≤ 9007199254740992) : ∃ x, interlocutorlaw1_within.f a n = some x ∧ 0 ≤ x ∧ x < n := within_is a n h h2
theorem length_is (y m : Int) : ∃ n, interlocutorref1_Length.f y m = some n ∧ 28 ≤ n ∧ n ≤ 31 := by
  have hl : ∃ b, interlocutorref1_Leap.f y = some b := by
    unfold interlocutorref1_Leap.f
    repeat' split
    all_goals exact ⟨_, rfl⟩
  obtain ⟨b, hb⟩ := hl
  unfold interlocutorref1_Length.f
  rw [hb]
  simp only [Option.bind_some]
  repeat' split
  all_goals exact ⟨_, rfl, by omega, by omega⟩
theorem ref_is (a : Int) : ∃ t, interlocutorlaw8_Ref.f a = some t := by
  unfold interlocutorlaw8_Ref.f interlocutorlaw1_Day.f
  obtain ⟨x, hx, x0, x1⟩ := within1_is (wrap64 (Int.tdiv a 400)) 9999 (by omega) (by omega)
  obtain ⟨y, hy, y0, y1⟩ := within1_is a 12 (by omega) (by omega)
  obtain ⟨n, hn, n0, n1⟩ := length_is (wrap64 (1 + x)) (wrap64 (1 + y))
  obtain ⟨z, hz, _, _⟩ := within1_is (wrap64 (Int.tdiv a 12)) n (by omega) (by omega)
  obtain ⟨p, hp, _, _⟩ := within_is (wrap64 (Int.tdiv a 7)) 24 (by omega) (by omega)
  obtain ⟨q, hq, _, _⟩ := within_is (wrap64 (Int.tdiv a 11)) 60 (by omega) (by omega)
  obtain ⟨r, hr, _, _⟩ := within_is (wrap64 (Int.tdiv a 13)) 60 (by omega) (by omega)
  simp [hx, hy, hn, hz, hp, hq, hr]
theorem wants_is (k n : Int) (h1 : 1 ≤ k) (h2 : k ≤ 15) : ∃ m, (∀ K, interlocutorlaw8_wants.f (K + 1) k n = some m) ∧ 1 ≤ m ∧ m ≤ 7 := by
  obtain ⟨x, hx, x0, x1⟩ := within_is n 2 (by omega) (by omega)
  obtain ⟨y, hy, y0, y1⟩ := within_is n 6 (by omega) (by omega)
  have e1 : wrap64 (2 + x) = 2 + x := by unfold wrap64; omega
  have e2 : wrap64 (1 + y) = 1 + y := by unfold wrap64; omega
  obtain rfl | rfl | rfl | rfl | rfl | rfl | rfl | rfl | rfl | rfl | rfl | rfl | rfl | rfl | rfl : k = 1 ∨ k = 2 ∨ k = 3 ∨ k = 4 ∨ k = 5 ∨ k = 6 ∨ k = 7 ∨ k = 8 ∨ k = 9 ∨ k = 10 ∨ k = 11 ∨ k = 12 ∨ k = 13 ∨ k = 14 ∨ k = 15 := by omega
  all_goals simp [interlocutorlaw8_wants.f, interlocutorlaw8_wants.j0, hx, hy, e1, e2, rd]
  all_goals omega
theorem rd_three (L : List S27) (p : Int) (h : ∀ x ∈ L, x.f0 = 3) (h0 : 0 ≤ p) (h1 : p < L.length) : (rd_T27 L p).f0 = 3 := by
  unfold rd_T27
  rw [List.getD_eq_getElem?_getD, List.getElem?_eq_getElem (by omega)]
  exact h _ (List.getElem_mem _)
theorem do_none (K : Nat) (k : Int) (P : List Int) (L : List S27) (y m d H I S : Int) (h1 : 1 ≤ k) (h2 : k ≤ 15) (hP : 0 < P.length) (hl : P.length ≤ 1000000) (hin : ∀ p ∈ P, 0 ≤ p ∧ p < (L.length : Int)) (h3 : ∀ x ∈ L, x.f0 = 3) :
    act_Do.f K k P L y m d H I S = some (0, [], false) := by
  have hg : act_Do.g K k P L y m d H I S = some none := by
    unfold act_Do.g
    rw [if_pos]
    refine ⟨h1, h2, hP, ?_⟩
    obtain ⟨p, Q, rfl⟩ : ∃ p Q, P = p :: Q := by cases P with | nil => simp at hP | cons p Q => exact ⟨p, Q, rfl⟩
    have := hin p (by simp)
    exact rd_three L p h3 this.1 this.2
  unfold act_Do.f
  rw [if_pos ⟨hl, hin, by omega⟩, hg]
  rfl
theorem loop (n k m : Int) (h1 : 1 ≤ k) (h2 : k ≤ 15) (hm : ∀ K, interlocutorlaw8_wants.f (K + 1) k n = some m) (m1 : 1 ≤ m) (m7 : m ≤ 7) : ∀ (r i : Nat) (L : List S27) (P : List Int), (i : Int) + r = m → L.length = i → P.length = i → (∀ x ∈ L, x.f0 = 3) → (∀ p ∈ P, 0 ≤ p ∧ p < (i : Int)) →
    interlocutorlaw8_ActKinds.l0 (r + 2) n k L i k P = some true
  | 0, i, L, P, hi, hL, hP, h3, hp => by
    obtain ⟨t, ht⟩ := ref_is n
    show interlocutorlaw8_ActKinds.l0 (1 + 1) n k L i k P = some true
    simp only [interlocutorlaw8_ActKinds.l0, hm 0, ht, Option.bind_some]
    rw [if_neg (by omega), do_none 1 k P L _ _ _ _ _ _ h1 h2 (by omega) (by omega) (by rw [hL]; exact hp) h3]
    rfl
  | r + 1, i, L, P, hi, hL, hP, h3, hp => by
    show interlocutorlaw8_ActKinds.l0 (r + 2 + 1) n k L i k P = some true
    simp only [interlocutorlaw8_ActKinds.l0, hm (r + 1), Option.bind_some]
    rw [if_pos (by omega), if_pos (by omega), if_pos (by omega), show wrap64 ((i : Int) + 1) = ((i + 1 : Nat) : Int) from by unfold wrap64; omega]
    refine loop n k m h1 h2 hm m1 m7 r (i + 1) _ _ (by omega) (by simp [hL]) (by simp [hP]) ?_ ?_
    · intro x hx
      rcases List.mem_append.mp hx with hx | hx
      · exact h3 x hx
      · obtain rfl : x = ⟨3, []⟩ := by simpa using hx
        rfl
    · intro p hx
      rcases List.mem_append.mp hx with hx | hx
      · have := hp p hx; omega
      · obtain rfl : p = (i : Int) := by simpa using hx
        omega
theorem ActKinds : interlocutorlaw8_ActKinds.Pure := by
  intro a0 a1 _ _
  obtain ⟨x, hx, x0, x1⟩ := within_is a0 15 (by omega) (by omega)
  have e : wrap64 (1 + x) = 1 + x := by unfold wrap64; omega
  obtain ⟨m, hm, m1, m7⟩ := wants_is (1 + x) a1 (by omega) (by omega)
  refine ⟨m.toNat + 2, ?_⟩
  unfold interlocutorlaw8_ActKinds.f
  simp only [interlocutorlaw8_known.f, hx, Option.bind_some, if_true, e]
  exact loop a1 (1 + x) m (by omega) (by omega) hm m1 m7 m.toNat 0 [] [] (by omega) rfl rfl (by simp) (by simp)

end Go.Proofs.Ytldfljlklfhjkaa.Pure
