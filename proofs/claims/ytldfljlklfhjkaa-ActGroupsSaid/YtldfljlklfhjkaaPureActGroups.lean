/- Groups of three digits are together one number, a group of another length is none: the plain statement behind the row. Conditions: none. -/
import Derived.Test.YtldfljlklfhjkaaPGrx9
namespace Go.Proofs.Ytldfljlklfhjkaa.Pure
open Go.RowKit Go.Proofs.Ytldfljlklfhjkaa.PGr Go.Proofs.YtldfljlklfhjkaaW.PrintWords Go.Proofs.YtldfljlklfhjkaaW.PrintLast

theorem within_is (a n : Int) (h : 0 < n) (h2 : n ≤ 9007199254740992) : ∃ x, interlocutorlaw8_within.f a n = some x ∧ 0 ≤ x ∧ x < n := by
  unfold interlocutorlaw8_within.f
  rw [if_neg (by omega)]
  have h0 : Int.tmod a n < n := Int.tmod_lt_of_pos a h
  have h1 : -n < Int.tmod a n := by have := Int.lt_tmod_of_pos a h; omega
  by_cases c : Int.tmod a n < 0
  · rw [if_pos c]; exact ⟨_, rfl, by unfold wrap64; omega, by unfold wrap64; omega⟩
  · rw [if_neg c]; exact ⟨_, rfl, by omega, h0⟩
theorem within1_is (a n : Int) (h : 0 < n) (h2 : n ≤ 9007199254740992) : ∃ x, interlocutorlaw1_within.f a n = some x ∧ 0 ≤ x ∧ x < n := within_is a n h h2
theorem length_is (y m : Int) : ∃ n, interlocutorref1_Length.f y m = some n ∧ 28 ≤ n ∧ n ≤ 31 := by
  have hl : ∃ b, interlocutorref1_Leap.f y = some b := by
    unfold interlocutorref1_Leap.f
    repeat' split
    all_goals exact ⟨_, rfl⟩
  obtain ⟨b, hb⟩ := hl
  unfold interlocutorref1_Length.f
  rw [hb]
  simp only [Option.bind_some]
  repeat' split
  all_goals exact ⟨_, rfl, by omega, by omega⟩
theorem ref_is (a : Int) : ∃ t, interlocutorlaw8_Ref.f a = some t := by
  unfold interlocutorlaw8_Ref.f interlocutorlaw1_Day.f
  obtain ⟨x, hx, x0, x1⟩ := within1_is (wrap64 (Int.tdiv a 400)) 9999 (by omega) (by omega)
  obtain ⟨y, hy, y0, y1⟩ := within1_is a 12 (by omega) (by omega)
  obtain ⟨n, hn, n0, n1⟩ := length_is (wrap64 (1 + x)) (wrap64 (1 + y))
  obtain ⟨z, hz, _, _⟩ := within1_is (wrap64 (Int.tdiv a 12)) n (by omega) (by omega)
  obtain ⟨p, hp, _, _⟩ := within_is (wrap64 (Int.tdiv a 7)) 24 (by omega) (by omega)
  obtain ⟨q, hq, _, _⟩ := within_is (wrap64 (Int.tdiv a 11)) 60 (by omega) (by omega)
  obtain ⟨r, hr, _, _⟩ := within_is (wrap64 (Int.tdiv a 13)) 60 (by omega) (by omega)
  simp [hx, hy, hn, hz, hp, hq, hr]
theorem order_same (a : Int) : interlocutorref10_order.f a a = some 0 := by
  unfold interlocutorref10_order.f
  rw [if_neg (by omega), if_neg (by omega)]
theorem cmp_two (K : Nat) (k a b : Int) : interlocutorref10_Cmp.f (K + 4) k [a, b] k [a, b] = some 0 := by
  simp [interlocutorref10_Cmp.f, interlocutorref10_Cmp.l0, order_same, wrap64, rd]
theorem right_dec (k : Nat) (v : Int) (h0 : 0 ≤ v) (h1 : v < 1000000000000000000) : act_Right.f k 7 [v, 0] = some true := by
  have hf : act_fields.f 7 = some 2 := by kernel_rfl
  have hn : dec_Norm.f v 0 = some (v, 0) := by
    unfold dec_Norm.f
    rw [if_pos (by omega)]
    rfl
  have hd : act_decimal.f [v, 0] = some true := by
    have e0 : rd [v, 0] 0 = v := rfl
    have e1 : rd [v, 0] 1 = 0 := rfl
    unfold act_decimal.f
    rw [if_pos (show (0 : Int) < ((([v, 0] : List Int).length : Nat) : Int) by simp), e0, e1, if_neg (show ¬(v ≤ -1000000000000000000) by omega), if_neg (show ¬(v ≥ 1000000000000000000) by omega), if_pos (show (1 : Int) < ((([v, 0] : List Int).length : Nat) : Int) by simp), if_neg (by omega), if_neg (by omega), hn]
    simp
  unfold act_Right.f
  rw [hf]
  simp only [Option.bind_some]
  rw [if_pos (show ((([v, 0] : List Int).length : Nat) : Int) = 2 from rfl), if_neg (by decide), if_neg (by decide), if_neg (by decide), if_pos trivial, hd]
  rfl
/-- How far group has come, behind groups that are all right. -/
def gst : Nat → Int → Int → List S27 → Option (Int × Int)
  | _, n, g, [] => some (n, g)
  | i, n, g, v :: t => if v.f0 = 1 ∧ 2 ≤ v.f1.length ∧ (rd v.f1 1 = 3 ∨ (i = 0 ∧ rd v.f1 1 < 3)) ∧ wrap64 (g + rd v.f1 1) ≤ 18 then gst (i + 1) (wrap64 (wrap64 (1000 * n) + rd v.f1 0)) (wrap64 (g + rd v.f1 1)) t else none
theorem gst_append : ∀ (L M : List S27) (i : Nat) (n g : Int), gst i n g (L ++ M) = (gst i n g L).bind fun s => gst (i + L.length) s.1 s.2 M
  | [], M, i, n, g => by simp [gst]
  | v :: L, M, i, n, g => by
    simp only [List.cons_append, gst]
    by_cases c : v.f0 = 1 ∧ 2 ≤ v.f1.length ∧ (rd v.f1 1 = 3 ∨ (i = 0 ∧ rd v.f1 1 < 3)) ∧ wrap64 (g + rd v.f1 1) ≤ 18
    · simp only [if_pos c]
      rw [gst_append L M, show i + 1 + L.length = i + (v :: L).length from by simp; omega]
    · simp only [if_neg c]
      rfl
theorem gst_snoc (L : List S27) (x : S27) (i : Nat) (n g n' g' : Int) (h : gst i n g L = some (n', g')) : gst i n g (L ++ [x]) = gst (i + L.length) n' g' [x] := by
  rw [gst_append, h]
  rfl
theorem groupG_of : ∀ (L M : List S27) (i : Nat) (n g n' g' : Int), gst i n g L = some (n', g') → groupG i n g (L ++ M) = groupG (i + L.length) n' g' M
  | [], M, i, n, g, n', g', h => by
    simp only [gst, Option.some.injEq, Prod.mk.injEq] at h
    obtain ⟨rfl, rfl⟩ := h
    rfl
  | v :: L, M, i, n, g, n', g', h => by
    unfold gst at h
    split at h
    case isFalse => cases h
    case isTrue c =>
      show groupG i n g (v :: (L ++ M)) = _
      unfold groupG
      rw [if_pos ⟨c.1, c.2.1⟩, if_pos ⟨c.2.2.1, c.2.2.2⟩, groupG_of L M _ _ _ _ _ h, show i + 1 + L.length = i + (v :: L).length from by simp; omega]
      cases M <;> rfl
theorem map_rd (L : List S27) : ((List.range L.length).map Int.ofNat).map (rd_T27 L) = L := by
  apply List.ext_getElem
  · simp
  · intro i h1 h2
    simp [rd_T27, h2]
theorem do_group (K : Nat) (L : List S27) (r : Option Int) (y m d H I S : Int) (hl : L.length ≤ 1000) (hg : groupG 0 0 0 L = some r) (hb : ∀ n, r = some n → 0 ≤ n ∧ n < 1000000000000000000) :
    act_Do.f K 10 ((List.range L.length).map Int.ofNat) L y m d H I S = if h : r.isSome = true then some (7, [r.get h, 0], true) else some (0, [], false) := by
  have e : act_Do.g K 10 ((List.range L.length).map Int.ofNat) L y m d H I S = r.elim (some none) fun n => some (some (7, [n, 0])) := by
    unfold act_Do.g
    rw [if_neg (by decide), if_pos rfl, map_rd]
    unfold act_maker_group.f
    rw [hg]
    cases r with
    | none => rfl
    | some n =>
      have := hb n rfl
      have hn : act_normed.f n 0 = some (7, [n, 0]) := by
        unfold act_normed.f dec_Norm.f
        rw [if_pos (by omega)]
        rfl
      show (act_normed.f n 0).map some = _
      rw [hn]
      rfl
  unfold act_Do.f
  rw [if_pos, e]
  · cases r with
    | none => rfl
    | some n =>
      have := hb n rfl
      simp [right_dec K n this.1 this.2]
  · refine ⟨by simp; omega, ?_, by decide⟩
    intro p hp
    obtain ⟨q, hq, rfl⟩ := List.mem_map.mp hp
    have := List.mem_range.mp hq
    show (0 : Int) ≤ (q : Int) ∧ (q : Int) < L.length
    omega
def bd (f i : Nat) : Int := 10 ^ (f + 3 * i)
theorem bd_next (f i : Nat) : bd f (i + 1) = 1000 * bd f i := by
  unfold bd
  rw [show f + 3 * (i + 1) = (f + 3 * i) + 3 from by omega, Int.pow_add]
  omega
theorem bd_most (f i : Nat) (h : f + 3 * i ≤ 18) : 1 ≤ bd f i ∧ bd f i ≤ 1000000000000000000 := by
  unfold bd
  have h1 : (10 : Nat) ^ 0 ≤ 10 ^ (f + 3 * i) := Nat.pow_le_pow_right (by omega) (Nat.zero_le _)
  have h2 : (10 : Nat) ^ (f + 3 * i) ≤ 10 ^ 18 := Nat.pow_le_pow_right (by omega) h
  have e : ((10 : Int) ^ (f + 3 * i)) = ((10 ^ (f + 3 * i) : Nat) : Int) := by simp
  rw [e]
  omega
/-- What the loop holds: the groups so far, and their number. -/
structure Inv (f i : Nat) (v : Int) (L : List S27) : Prop where
  len : L.length = i + 1
  v0 : 0 ≤ v
  v1 : v < bd f i
  st : gst 0 0 0 L = some (v, ((f + 3 * i : Nat) : Int))
  el : ∀ x ∈ L, x.f0 = 1 ∧ x.f1.length = 2
theorem wrap_grp (v n B : Int) (v0 : 0 ≤ v) (v1 : v < B) (hB : 1000 * B ≤ 1000000000000000000) (n0 : 0 ≤ n) (n1 : n < 1000) : wrap64 (wrap64 (1000 * v) + n) = 1000 * v + n ∧ 0 ≤ 1000 * v + n ∧ 1000 * v + n < 1000 * B := by
  have e1 : wrap64 (1000 * v) = 1000 * v := by unfold wrap64; omega
  rw [e1]
  exact ⟨by unfold wrap64; omega, by omega, by omega⟩
theorem wrap_dig (m : Nat) (h : m + 3 ≤ 18) : wrap64 ((m : Int) + 3) = ((m + 3 : Nat) : Int) := by unfold wrap64; omega
theorem gst_one (i : Nat) (v n g : Int) (h : wrap64 (g + 3) ≤ 18) : gst i v g [⟨1, [n, 3]⟩] = some (wrap64 (wrap64 (1000 * v) + n), wrap64 (g + 3)) := by
  have r0 : rd [n, 3] 0 = n := rfl
  have r1 : rd [n, 3] 1 = 3 := rfl
  simp only [gst]
  rw [r0, r1, if_pos ⟨trivial, by simp, .inl rfl, h⟩]
theorem next_len {f i : Nat} {v n : Int} {L : List S27} (h : Inv f i v L) : (L ++ [(⟨1, [n, 3]⟩ : S27)]).length = i + 1 + 1 := by simp [h.len]
theorem next_bd {f i : Nat} {v n : Int} (hb : bd f (i + 1) ≤ 1000000000000000000) (v0 : 0 ≤ v) (v1 : v < bd f i) (n0 : 0 ≤ n) (n1 : n < 1000) : 0 ≤ wrap64 (wrap64 (1000 * v) + n) ∧ wrap64 (wrap64 (1000 * v) + n) < bd f (i + 1) := by
  rw [bd_next] at hb ⊢
  obtain ⟨e, p0, p1⟩ := wrap_grp v n (bd f i) v0 v1 hb n0 n1
  rw [e]
  exact ⟨p0, p1⟩
theorem next_dig {f i : Nat} (h : f + 3 * (i + 1) ≤ 18) : wrap64 (((f + 3 * i : Nat) : Int) + 3) = ((f + 3 * (i + 1) : Nat) : Int) := wrap_dig (f + 3 * i) (by omega)
theorem next_st {f i : Nat} {v n : Int} {L : List S27} (h : Inv f i v L) (hf : ((f + 3 * (i + 1) : Nat) : Int) ≤ 18) (e2 : wrap64 (((f + 3 * i : Nat) : Int) + 3) = ((f + 3 * (i + 1) : Nat) : Int)) : gst 0 0 0 (L ++ [⟨1, [n, 3]⟩]) = some (wrap64 (wrap64 (1000 * v) + n), ((f + 3 * (i + 1) : Nat) : Int)) := by
  rw [gst_snoc L _ 0 0 0 _ _ h.st, gst_one _ _ _ _ (by rw [e2]; exact hf), e2]
theorem next_el {f i : Nat} {v n : Int} {L : List S27} (h : Inv f i v L) : ∀ x ∈ L ++ [(⟨1, [n, 3]⟩ : S27)], x.f0 = 1 ∧ x.f1.length = 2 := by
  intro x hx
  rcases List.mem_append.mp hx with hx | hx
  · exact h.el x hx
  · obtain rfl : x = ⟨1, [n, 3]⟩ := by simpa using hx
    exact ⟨rfl, rfl⟩
theorem Inv.next {f i : Nat} {v n : Int} {L : List S27} (h : Inv f i v L) (hf : f + 3 * (i + 1) ≤ 18) (n0 : 0 ≤ n) (n1 : n < 1000) : Inv f (i + 1) (wrap64 (wrap64 (1000 * v) + n)) (L ++ [⟨1, [n, 3]⟩]) :=
  have hb := next_bd (bd_most f (i + 1) hf).2 h.v0 h.v1 n0 n1
  ⟨next_len h, hb.1, hb.2, next_st h (by omega) (next_dig hf), next_el h⟩
theorem rd_in (L : List S27) (k : Nat) (h : k < L.length) : rd_T27 L (k : Int) ∈ L := by
  unfold rd_T27
  rw [List.getD_eq_getElem?_getD, List.getElem?_eq_getElem (by omega)]
  exact List.getElem_mem _
theorem groupG_set (L : List S27) (k : Nat) (x : Int) (s : Int × Int) (hk : k < L.length) (h : gst 0 0 0 L = some s) : groupG 0 0 0 (L.set k ⟨1, [x, 4]⟩) = some none := by
  have e : L = L.take k ++ L.drop k := (List.take_append_drop k L).symm
  rw [e, gst_append] at h
  obtain ⟨t, ht, _⟩ := Option.bind_eq_some_iff.mp h
  rw [List.set_eq_take_append_cons_drop, if_pos hk, groupG_of _ _ _ _ _ t.1 t.2 ht]
  unfold groupG
  rw [if_pos ⟨rfl, by simp⟩, if_neg]
  rintro ⟨c | c, _⟩
  · exact absurd c (by show ¬((4 : Int) = 3); decide)
  · exact absurd c.2 (by show ¬((4 : Int) < 3); decide)
theorem fin_is (f i : Nat) (v a1 a2 : Int) (L : List S27) (h : Inv f i v L) (hf : f ≤ 3) (hi : i ≤ 5) : interlocutorlaw8_ActGroups.j1 8 a1 a2 v L 10 ((List.range L.length).map Int.ofNat) = some true := by
  obtain ⟨t, ht⟩ := ref_is a1
  have hl := h.len
  have b1 := bd_most f i (by omega)
  have v1 := h.v1
  have hG : groupG 0 0 0 L = some (some v) := by
    have := groupG_of L [] 0 0 0 _ _ h.st
    rw [List.append_nil] at this
    rw [this]
    rfl
  show interlocutorlaw8_ActGroups.j1 (7 + 1) a1 a2 v L 10 ((List.range L.length).map Int.ofNat) = some true
  simp only [interlocutorlaw8_ActGroups.j1, ht, Option.bind_some]
  rw [do_group 7 L (some v) _ _ _ _ _ _ (by omega) hG (fun n hn => by obtain rfl := Option.some.inj hn; exact ⟨h.v0, by omega⟩)]
  simp only [Option.isSome_some, dif_pos, Option.get_some, Option.bind_some, if_true, cmp_two 3]
  show interlocutorlaw8_ActGroups.j2 (6 + 1) a1 a2 L false 10 ((List.range L.length).map Int.ofNat) = some true
  obtain ⟨k, hk, k0, k1⟩ := within_is a2 (L.length : Int) (by omega) (by omega)
  obtain ⟨q, rfl⟩ : ∃ q : Nat, k = q := ⟨k.toNat, by omega⟩
  have hq := h.el _ (rd_in L q (by omega))
  simp only [interlocutorlaw8_ActGroups.j2, hk, ht, Option.bind_some]
  rw [if_neg (by decide), if_pos (by omega), if_pos (by omega), if_pos (by rw [hq.2]; decide)]
  have hs : (L.set ((q : Int)).toNat ⟨1, [rd (rd_T27 L q).f1 0, 4]⟩).length = L.length := by simp
  have := do_group 6 (L.set ((q : Int)).toNat ⟨1, [rd (rd_T27 L q).f1 0, 4]⟩) none t.1 t.2.1 t.2.2.1 t.2.2.2.1 t.2.2.2.2.1 t.2.2.2.2.2 (by rw [hs]; omega) (by rw [Int.toNat_natCast]; exact groupG_set L q _ _ (by omega) h.st) (by simp)
  rw [hs] at this
  rw [this]
  rfl
theorem loop_is (f : Nat) (hf : f ≤ 3) (l0 : List Int) (a1 a2 : Int) : ∀ (r i : Nat) (v : Int) (L : List S27), i + r = 5 → Inv f i v L → interlocutorlaw8_ActGroups.l0 (r + 9) l0 a1 a2 v L i 10 ((List.range L.length).map Int.ofNat) = some true
  | 0, i, v, L, hi, h => by
    show interlocutorlaw8_ActGroups.l0 (8 + 1) l0 a1 a2 v L i 10 ((List.range L.length).map Int.ofNat) = some true
    have hj := fin_is f i v a1 a2 L h hf (by omega)
    simp only [interlocutorlaw8_ActGroups.l0]
    by_cases c : (i : Int) < l0.length
    · rw [if_pos c, if_neg (by omega)]; exact hj
    · rw [if_neg c]; exact hj
  | r + 1, i, v, L, hi, h => by
    show interlocutorlaw8_ActGroups.l0 (r + 9 + 1) l0 a1 a2 v L i 10 ((List.range L.length).map Int.ofNat) = some true
    have hl := h.len
    have hj : interlocutorlaw8_ActGroups.j1 (r + 9) a1 a2 v L 10 ((List.range L.length).map Int.ofNat) = some true := by
      have mono : ∀ s, interlocutorlaw8_ActGroups.j1 (s + 8) a1 a2 v L 10 ((List.range L.length).map Int.ofNat) = some true := by
        intro s
        induction s with
        | zero => exact fin_is f i v a1 a2 L h hf (by omega)
        | succ s ih => exact (interlocutorlaw8_ActGroups.mono_l (s + 8)).1 _ _ _ _ _ _ _ ih
      exact mono (r + 1)
    simp only [interlocutorlaw8_ActGroups.l0]
    by_cases c : (i : Int) < l0.length
    · rw [if_pos c, if_pos (by omega), if_pos (by omega)]
      obtain ⟨n, hn, n0, n1⟩ := within_is (rd l0 i) 1000 (by omega) (by omega)
      rw [hn]
      simp only [Option.bind_some]
      rw [if_pos (by omega), if_pos (by simp; omega), show wrap64 ((i : Int) + 1) = ((i + 1 : Nat) : Int) from by unfold wrap64; omega]
      have hP : (List.range L.length).map Int.ofNat ++ [((i + 1 : Nat) : Int)] = (List.range (L ++ [(⟨1, [n, 3]⟩ : S27)]).length).map Int.ofNat := by
        rw [List.length_append, List.length_singleton, List.range_succ, List.map_append, hl]
        rfl
      rw [hP]
      exact loop_is f hf l0 a1 a2 r (i + 1) _ _ (by omega) (h.next (by omega) n0 n1)
    · rw [if_neg c]
      exact hj
theorem ActGroups : interlocutorlaw8_ActGroups.Pure := by
  intro l0 a1 a2 _ _ _ _ _
  refine ⟨14, ?_⟩
  obtain ⟨x, hx, x0, x1⟩ := within_is a1 3 (by omega) (by omega)
  have e1 : wrap64 (1 + x) = 1 + x := by unfold wrap64; omega
  have e2 : wrap64 (1 + x - 1) = x := by unfold wrap64; omega
  unfold interlocutorlaw8_ActGroups.f
  simp only [interlocutorlaw8_known.f, hx, Option.bind_some, if_true, e1, e2]
  rw [if_pos (by omega), if_pos (show x < ((([10, 100, 1000] : List Int).length : Nat) : Int) by simp; omega)]
  obtain ⟨q, rfl⟩ : ∃ q : Nat, x = q := ⟨x.toNat, by omega⟩
  have hb : rd [10, 100, 1000] (q : Int) = bd (1 + q) 0 := by
    obtain rfl | rfl | rfl : q = 0 ∨ q = 1 ∨ q = 2 := by omega
    all_goals rfl
  have b1 := bd_most (1 + q) 0 (by omega)
  rw [hb]
  have b2 : bd (1 + q) 0 ≤ 9007199254740992 := by
    obtain rfl | rfl | rfl : q = 0 ∨ q = 1 ∨ q = 2 := by omega
    all_goals decide
  obtain ⟨v, hv, v0, v1⟩ := within_is (wrap64 (Int.tdiv a1 3)) (bd (1 + q) 0) (by omega) b2
  rw [hv]
  simp only [Option.bind_some]
  refine loop_is (1 + q) (by omega) l0 a1 a2 5 0 v _ (by omega) ⟨rfl, v0, v1, ?_, ?_⟩
  · have e3 : wrap64 (0 + (1 + (q : Int))) = 1 + (q : Int) := by unfold wrap64; omega
    have e4 : wrap64 (wrap64 (1000 * 0) + v) = v := by
      have : v < 9007199254740992 := by omega
      unfold wrap64; omega
    unfold gst
    rw [if_pos]
    · show gst 1 (wrap64 (wrap64 (1000 * 0) + v)) (wrap64 (0 + (1 + (q : Int)))) [] = _
      rw [e3, e4]
      show some (v, 1 + (q : Int)) = some (v, ((1 + q + 3 * 0 : Nat) : Int))
      congr 2
    · refine ⟨rfl, by simp, ?_, ?_⟩
      · show (1 + (q : Int) = 3 ∨ (0 = 0 ∧ 1 + (q : Int) < 3))
        omega
      · show wrap64 (0 + (1 + (q : Int))) ≤ 18
        rw [e3]
        omega
  · intro y hy
    obtain rfl : y = ⟨1, [v, 1 + (q : Int)]⟩ := by simpa using hy
    exact ⟨rfl, rfl⟩

end Go.Proofs.Ytldfljlklfhjkaa.Pure
