/- Months are as long as the document says; a year has 365 days, or 366: the plain statement behind the row. Conditions: none. -/
import Derived.Test.YtbdabmegbhobiaaPCivx2
import Derived.Test.YtbdabmegbhobiaaCal
namespace Go.Proofs.Ytbdabmegbhobiaa.Pure
open Go.RowKit Go.Proofs.Ytbdabmegbhobiaa.PCiv Go.Proofs.YtbdabmegbhobiaaW.PrintWords Go.Proofs.YtbdabmegbhobiaaW.PrintLast

theorem w64s {a b : Int} (h : a = b) (h1 : -9223372036854775808 ≤ b) (h2 : b ≤ 9223372036854775807) : wrap64 a = b := by rw [h]; exact w64 h1 h2
theorem len_step (r : Nat) (y s m : Int) (h : m ≤ 12) : interlocutorlaw1_CivilLengths.l0 (r + 1) y s m = interlocutorlaw1_CivilLengths.l0 r y (wrap64 (s + lenOf y m)) (wrap64 (m + 1)) := by
  simp only [interlocutorlaw1_CivilLengths.l0]
  rw [if_pos h, length_of, rlength_of]
  simp
theorem year_len (y : Int) : daysOf (y + 1) 1 1 = daysOf y 1 1 + (337 + lenOf y 2) := by
  rw [year_next]
  have e := fun m h1 h2 => month_next (y := y) (m := m) h1 h2 1
  have e1 := e 1 (by omega) (by omega)
  have e2 := e 2 (by omega) (by omega)
  have e3 := e 3 (by omega) (by omega)
  have e4 := e 4 (by omega) (by omega)
  have e5 := e 5 (by omega) (by omega)
  have e6 := e 6 (by omega) (by omega)
  have e7 := e 7 (by omega) (by omega)
  have e8 := e 8 (by omega) (by omega)
  have e9 := e 9 (by omega) (by omega)
  have e10 := e 10 (by omega) (by omega)
  have e11 := e 11 (by omega) (by omega)
  rw [len_odd y 1 (by omega)] at e1
  rw [len_odd y 3 (by omega)] at e3
  rw [len_even y 4 (by omega)] at e4
  rw [len_odd y 5 (by omega)] at e5
  rw [len_even y 6 (by omega)] at e6
  rw [len_odd y 7 (by omega)] at e7
  rw [len_odd y 8 (by omega)] at e8
  rw [len_even y 9 (by omega)] at e9
  rw [len_odd y 10 (by omega)] at e10
  rw [len_even y 11 (by omega)] at e11
  simp only [Int.reduceAdd] at e1 e2 e3 e4 e5 e6 e7 e8 e9 e10 e11
  omega

theorem CivilLengths : interlocutorlaw1_CivilLengths.Pure := by
  intro n hn
  obtain ⟨h, h2⟩ := wf_bd hn
  refine ⟨13, ?_⟩
  unfold interlocutorlaw1_CivilLengths.f
  simp only [known_true, Option.bind_some, if_true, within_of n 30000 h h2 (by omega) (by omega)]
  rw [w64 (by omega) (by omega)]
  have y0 : -10000 ≤ n % 30000 - 10000 := by omega
  have y1 : n % 30000 - 10000 ≤ 20000 := by omega
  generalize n % 30000 - 10000 = y at *
  have hf := len_bd y 2
  rw [len_step 12 y 0 1 (by omega), len_odd y 1 (by omega), show wrap64 (1 + 1) = 2 from w64s (by omega) (by omega) (by omega), show wrap64 (0 + 31) = 31 from w64s (by omega) (by omega) (by omega)]
  rw [len_step 11 y 31 2 (by omega), show wrap64 (2 + 1) = 3 from w64s (by omega) (by omega) (by omega), show wrap64 (31 + lenOf y 2) = (31 + lenOf y 2) from w64s (by omega) (by omega) (by omega)]
  rw [len_step 10 y (31 + lenOf y 2) 3 (by omega), len_odd y 3 (by omega), show wrap64 (3 + 1) = 4 from w64s (by omega) (by omega) (by omega), show wrap64 ((31 + lenOf y 2) + 31) = (62 + lenOf y 2) from w64s (by omega) (by omega) (by omega)]
  rw [len_step 9 y (62 + lenOf y 2) 4 (by omega), len_even y 4 (by omega), show wrap64 (4 + 1) = 5 from w64s (by omega) (by omega) (by omega), show wrap64 ((62 + lenOf y 2) + 30) = (92 + lenOf y 2) from w64s (by omega) (by omega) (by omega)]
  rw [len_step 8 y (92 + lenOf y 2) 5 (by omega), len_odd y 5 (by omega), show wrap64 (5 + 1) = 6 from w64s (by omega) (by omega) (by omega), show wrap64 ((92 + lenOf y 2) + 31) = (123 + lenOf y 2) from w64s (by omega) (by omega) (by omega)]
  rw [len_step 7 y (123 + lenOf y 2) 6 (by omega), len_even y 6 (by omega), show wrap64 (6 + 1) = 7 from w64s (by omega) (by omega) (by omega), show wrap64 ((123 + lenOf y 2) + 30) = (153 + lenOf y 2) from w64s (by omega) (by omega) (by omega)]
  rw [len_step 6 y (153 + lenOf y 2) 7 (by omega), len_odd y 7 (by omega), show wrap64 (7 + 1) = 8 from w64s (by omega) (by omega) (by omega), show wrap64 ((153 + lenOf y 2) + 31) = (184 + lenOf y 2) from w64s (by omega) (by omega) (by omega)]
  rw [len_step 5 y (184 + lenOf y 2) 8 (by omega), len_odd y 8 (by omega), show wrap64 (8 + 1) = 9 from w64s (by omega) (by omega) (by omega), show wrap64 ((184 + lenOf y 2) + 31) = (215 + lenOf y 2) from w64s (by omega) (by omega) (by omega)]
  rw [len_step 4 y (215 + lenOf y 2) 9 (by omega), len_even y 9 (by omega), show wrap64 (9 + 1) = 10 from w64s (by omega) (by omega) (by omega), show wrap64 ((215 + lenOf y 2) + 30) = (245 + lenOf y 2) from w64s (by omega) (by omega) (by omega)]
  rw [len_step 3 y (245 + lenOf y 2) 10 (by omega), len_odd y 10 (by omega), show wrap64 (10 + 1) = 11 from w64s (by omega) (by omega) (by omega), show wrap64 ((245 + lenOf y 2) + 31) = (276 + lenOf y 2) from w64s (by omega) (by omega) (by omega)]
  rw [len_step 2 y (276 + lenOf y 2) 11 (by omega), len_even y 11 (by omega), show wrap64 (11 + 1) = 12 from w64s (by omega) (by omega) (by omega), show wrap64 ((276 + lenOf y 2) + 30) = (306 + lenOf y 2) from w64s (by omega) (by omega) (by omega)]
  rw [len_step 1 y (306 + lenOf y 2) 12 (by omega), len_odd y 12 (by omega), show wrap64 (12 + 1) = 13 from w64s (by omega) (by omega) (by omega), show wrap64 ((306 + lenOf y 2) + 31) = (337 + lenOf y 2) from w64s (by omega) (by omega) (by omega)]
  have va : Valid (y + 1) 1 1 := ⟨by omega, by omega, by omega, by have := len_bd (y + 1) 1; omega⟩
  have vb : Valid y 1 1 := ⟨by omega, by omega, by omega, by have := len_bd y 1; omega⟩
  have na : Near (y + 1) := by unfold Near; omega
  have nb : Near y := by unfold Near; omega
  have ha := days_near na va
  have hb := days_near nb vb
  have hy := year_len y
  simp only [interlocutorlaw1_CivilLengths.l0]
  rw [if_neg (by omega), w64 (n := y + 1) (by omega) (by omega)]
  simp only [days_of na va, days_of nb vb, Option.bind_some, rleap_of]
  rw [w64 (by omega) (by omega), if_pos (by omega)]
  rcases len_two y with ⟨l, e⟩ | ⟨l, e⟩ <;> rw [l, e] <;> decide

end Go.Proofs.Ytbdabmegbhobiaa.Pure
