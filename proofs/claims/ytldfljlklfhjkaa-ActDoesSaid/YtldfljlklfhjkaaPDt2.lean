/- ActDoes, walked to its end: what its two loops come to. Conditions: that the callees answer. -/
import Derived.Test.YtldfljlklfhjkaaPDt1
namespace Go.Proofs.Ytldfljlklfhjkaa.PE
open Go.RowKit Go.Proofs.YtldfljlklfhjkaaW.PrintWords
set_option linter.unusedVariables false
set_option linter.unusedSimpArgs false
namespace Ev
theorem ad_wrap (n : Int) (h : -9223372036854775808 ≤ n) (h' : n ≤ 9223372036854775807) : wrap64 n = n := by unfold wrap64; omega
section
variable (known : Unit → Option Bool) (within : Int × Int → Option Int) (child : Int → Option S27) (wants : Int × Int → Option Int) (ref_ : Int → Option Mom) (act_Do ref8_Do : S27 × List S27 × Mom → Option (S27 × Bool)) (cmp : S27 × S27 → Option Int) (right : S27 → Option Bool) (op : Int) (ns ps : List Int) (n : Int)
theorem ad_loop1 {P : S27 → Prop} {R : Res} {K : Ex → St → Res} (hns : (ns.length : Int) ≤ 4611686018427387904)
    (hw : ∀ x, ∃ t, within (x, 1099511627776) = some t ∧ 0 ≤ t ∧ t < 1099511627776) (hc : ∀ t, 0 ≤ t → t < 1099511627776 → ∃ v, child t = some v ∧ P v)
    (hK : ∀ i k l, (∀ v ∈ l, P v) → 0 < l.length → l.length ≤ 6 → K (.exit 0) (adA op ns ps n i k l) = R) :
    ∀ (m i : Nat) (k : Int) (l : List S27), l.length = i → 0 < i → i ≤ 6 → 6 < i + m → (∀ v ∈ l, P v) → loopF m 20 (den (adΓ known within child wants ref_ act_Do ref8_Do cmp right) 7 adB1) (adA op ns ps n i k l) K = R := by
  intro m
  induction m with
  | zero => intro i k l _ _ h6 hm _; omega
  | succ m ih =>
    intro i k l hl h0 h6 hm hP
    have e1 : wrap64 (1 + (ns.length : Int)) = 1 + (ns.length : Int) := ad_wrap _ (by omega) (by omega)
    have e2 : wrap64 ((i : Int) + 1) = ((i + 1 : Nat) : Int) := by rw [ad_wrap _ (by omega) (by omega)]; rfl
    rw [loopF_succ, ad_a, e1]
    by_cases c1 : (i : Int) < 1 + (ns.length : Int)
    rotate_left
    · rw [if_neg c1]; exact hK _ _ _ hP (by omega) (by omega)
    rw [if_pos c1]
    by_cases c2 : (i : Int) < 6
    rotate_left
    · rw [if_neg c2]; exact hK _ _ _ hP (by omega) (by omega)
    rw [if_pos c2]
    have step : ∀ v q, P v → loopF m 20 (den (adΓ known within child wants ref_ act_Do ref8_Do cmp right) 7 adB1) (adA op ns ps n (wrap64 (i + 1)) q (l ++ [v])) K = R := by
      intro v q hv
      rw [e2]
      exact ih (i + 1) q _ (by simp [hl]) (by omega) (by omega) (by omega) fun u hu => by
        rcases List.mem_append.1 hu with hu | hu
        · exact hP u hu
        · rw [List.mem_singleton.1 hu]; exact hv
    have hle : l.length + 1 ≤ 1000000 := by omega
    by_cases c3 : (i : Int) < (ns.length : Int)
    · rw [if_pos c3, if_pos (by omega), if_pos c3]
      obtain ⟨t, ht, t0, t1⟩ := hw (rd ns i)
      obtain ⟨v, hv, hp⟩ := hc t t0 t1
      rw [ht, Option.bind_some, hv, Option.bind_some, if_pos hle]
      exact step v t hp
    · rw [if_neg c3]
      obtain ⟨v, hv, hp⟩ := hc i (by omega) (by omega)
      rw [hv, Option.bind_some, if_pos hle]
      exact step v i hp
theorem ad_loop1_0 {P : S27 → Prop} {R : Res} {K : Ex → St → Res} (hns : (ns.length : Int) ≤ 4611686018427387904)
    (hw : ∀ x, ∃ t, within (x, 1099511627776) = some t ∧ 0 ≤ t ∧ t < 1099511627776) (hc : ∀ t, 0 ≤ t → t < 1099511627776 → ∃ v, child t = some v ∧ P v)
    (hK : ∀ i k l, (∀ v ∈ l, P v) → 0 < l.length → l.length ≤ 6 → K (.exit 0) (adA op ns ps n i k l) = R) :
    loopF 7 20 (den (adΓ known within child wants ref_ act_Do ref8_Do cmp right) 7 adB1) (adA0 op ns ps n) K = R := by
  have e1 : wrap64 (1 + (ns.length : Int)) = 1 + (ns.length : Int) := ad_wrap _ (by omega) (by omega)
  refine (loopF_succ 6 20 _ _ _).trans ?_
  rw [ad_a0, e1, if_pos (by omega)]
  have step : ∀ v q, P v → loopF 6 20 (den (adΓ known within child wants ref_ act_Do ref8_Do cmp right) 7 adB1) (adA op ns ps n ((1 : Nat) : Int) q [v]) K = R := fun v q hv =>
    ad_loop1 known within child wants ref_ act_Do ref8_Do cmp right op ns ps n hns hw hc hK 6 1 q [v] rfl (by omega) (by omega) (by omega) fun u hu => by rw [List.mem_singleton.1 hu]; exact hv
  by_cases c3 : 0 < (ns.length : Int)
  · rw [if_pos c3, if_pos c3]
    obtain ⟨t, ht, t0, t1⟩ := hw (rd ns 0)
    obtain ⟨v, hv, hp⟩ := hc t t0 t1
    rw [ht, Option.bind_some, hv, Option.bind_some]
    exact step v t hp
  · rw [if_neg c3]
    obtain ⟨v, hv, hp⟩ := hc 0 (by omega) (by omega)
    rw [hv, Option.bind_some]
    exact step v 0 hp
theorem ad_loop2 {R : Res} {K : Ex → St → Res} (i k : Int) (l : List S27) (o c : Int) (hwants : wants (o, n) = some c) (c6 : c ≤ 6)
    (hw : ∀ x, ∃ t, within (x, (l.length : Int)) = some t ∧ 0 ≤ t ∧ t < (l.length : Int))
    (hK : ∀ j q p, (∀ x ∈ p, 0 ≤ x ∧ x < (l.length : Int)) → (p.length : Int) = c → K (.exit 2) (adPl op ns ps n i k l o j q p) = R) :
    ∀ (m j : Nat) (q : Int) (p : List Int), p.length = j → (j : Int) ≤ c → 6 < j + m → (∀ x ∈ p, 0 ≤ x ∧ x < (l.length : Int)) → loopF m 20 (den (adΓ known within child wants ref_ act_Do ref8_Do cmp right) 7 adB2) (adPl op ns ps n i k l o j q p) K = R := by
  intro m
  induction m with
  | zero => intro j q p _ h6 hm _; omega
  | succ m ih =>
    intro j q p hl h6 hm hP
    have e2 : wrap64 ((j : Int) + 1) = ((j + 1 : Nat) : Int) := by rw [ad_wrap _ (by omega) (by omega)]; rfl
    rw [loopF_succ, ad_b, hwants, Option.bind_some]
    by_cases c1 : (j : Int) < c
    rotate_left
    · rw [if_neg c1]; exact hK _ _ _ hP (by omega)
    rw [if_pos c1]
    have step : ∀ t q, 0 ≤ t ∧ t < (l.length : Int) → loopF m 20 (den (adΓ known within child wants ref_ act_Do ref8_Do cmp right) 7 adB2) (adPl op ns ps n i k l o (wrap64 (j + 1)) q (p ++ [t])) K = R := by
      intro t q ht
      rw [e2]
      exact ih (j + 1) q _ (by simp [hl]) (by omega) (by omega) fun u hu => by
        rcases List.mem_append.1 hu with hu | hu
        · exact hP u hu
        · rw [List.mem_singleton.1 hu]; exact ht
    have hle : p.length + 1 ≤ 1000000 := by omega
    by_cases c3 : (j : Int) < (ps.length : Int)
    · rw [if_pos c3, if_pos (by omega), if_pos c3]
      obtain ⟨t, ht, t0⟩ := hw (rd ps j)
      rw [ht, Option.bind_some, if_pos hle]
      exact step t _ t0
    · rw [if_neg c3]
      obtain ⟨t, ht, t0⟩ := hw j
      rw [ht, Option.bind_some, if_pos hle]
      exact step t _ t0
theorem ad_loop2_0 {R : Res} {K : Ex → St → Res} (i k : Int) (l : List S27) (o c : Int) (hwants : wants (o, n) = some c) (c1 : 1 ≤ c) (c6 : c ≤ 6)
    (hw : ∀ x, ∃ t, within (x, (l.length : Int)) = some t ∧ 0 ≤ t ∧ t < (l.length : Int))
    (hK : ∀ j q p, (∀ x ∈ p, 0 ≤ x ∧ x < (l.length : Int)) → (p.length : Int) = c → K (.exit 2) (adPl op ns ps n i k l o j q p) = R) :
    loopF 7 20 (den (adΓ known within child wants ref_ act_Do ref8_Do cmp right) 7 adB2) (adPl0 op ns ps n i k l o) K = R := by
  refine (loopF_succ 6 20 _ _ _).trans ?_
  rw [ad_b0, hwants, Option.bind_some, if_pos (by omega)]
  have step : ∀ t q, 0 ≤ t ∧ t < (l.length : Int) → loopF 6 20 (den (adΓ known within child wants ref_ act_Do ref8_Do cmp right) 7 adB2) (adPl op ns ps n i k l o ((1 : Nat) : Int) q [t]) K = R := fun t q ht =>
    ad_loop2 known within child wants ref_ act_Do ref8_Do cmp right op ns ps n i k l o c hwants c6 hw hK 6 1 q [t] rfl (by omega) (by omega) fun u hu => by rw [List.mem_singleton.1 hu]; exact ht
  by_cases c3 : 0 < (ps.length : Int)
  · rw [if_pos c3, if_pos c3]
    obtain ⟨t, ht, t0⟩ := hw (rd ps 0)
    rw [ht, Option.bind_some]
    exact step t _ t0
  · rw [if_neg c3]
    obtain ⟨t, ht, t0⟩ := hw 0
    rw [ht, Option.bind_some]
    exact step t _ t0
/-- What both make of these children at these places is one. -/
def Does (act_Do ref8_Do : S27 × List S27 × Mom → Option (S27 × Bool)) (cmp : S27 × S27 → Option Int) (right : S27 → Option Bool) (o : Int) (p : List Int) (l : List S27) (m : Mom) : Prop :=
  ∃ v b, act_Do (⟨o, p⟩, l, m) = some (v, b) ∧ ref8_Do (⟨o, p⟩, l, m) = some (v, b) ∧ cmp (v, v) = some 0 ∧ (b = true → o = 0 ∨ right v = some true)
theorem bm_true {γ : Type} (x y : γ) : bm true x y = x := rfl
theorem blkF_is (id : Nat) (fx : St → (Ex → St → Res) → Res) (s : St) (k : Ex → St → Res) : blkF id fx s k = fx s (blk id k) := rfl
theorem blk_exit (id : Nat) (fy : St → (Ex → St → Res) → Res) (s : St) (k : Ex → St → Res) : blk id (thn fy k) (.exit id) s = fy s k := if_pos rfl
theorem ad_w3 (i k : Int) (l : List S27) (o j q : Int) (p : List Int) {m : Mom} (hm : ref_ n = some m) (hd : Does act_Do ref8_Do cmp right o p l m) :
    den (adΓ known within child wants ref_ act_Do ref8_Do cmp right) 7 adE (adPl op ns ps n i k l o j q p) (finK Try.f3) = some (.ret (bo true)) := by
  refine (ad_fin known within child wants ref_ act_Do ref8_Do cmp right op ns ps n i k l o j q p).trans ?_
  obtain ⟨v, b, h1, h2, h3, h4⟩ := hd
  rw [hm, Option.bind_some, h1, h2, Option.bind_some, Option.bind_some]
  cases b with
  | false =>
    show (cmp (v, v)).bind _ = _
    rw [h3]; rfl
  | true =>
    show (cmp (v, v)).bind _ = _
    rw [h3, Option.bind_some, if_pos rfl]
    rcases h4 rfl with h | h
    · rw [if_pos h]
    · by_cases h0 : o = 0
      · rw [if_pos h0]
      · rw [if_neg h0, h]; rfl
theorem ad_w2 {P : S27 → Prop} (hw : ∀ x c : Int, 0 < c → c ≤ 1099511627776 → ∃ t, within (x, c) = some t ∧ 0 ≤ t ∧ t < c)
    (hwants : ∀ o, 0 ≤ o → o < 16 → ∃ c, wants (o, n) = some c ∧ 1 ≤ c ∧ c ≤ 6) {m : Mom} (hm : ref_ n = some m)
    (hd : ∀ o l p, 0 ≤ o → o < 16 → (∀ v ∈ l, P v) → 0 < l.length → l.length ≤ 6 → wants (o, n) = some (p.length : Int) → (∀ x ∈ p, 0 ≤ x ∧ x < (l.length : Int)) → Does act_Do ref8_Do cmp right o p l m)
    (i k : Int) (l : List S27) (hl : ∀ v ∈ l, P v) (l0 : 0 < l.length) (l6 : l.length ≤ 6) :
    seqF (den (adΓ known within child wants ref_ act_Do ref8_Do cmp right) 7 ad11) (seqF (seqF (den (adΓ known within child wants ref_ act_Do ref8_Do cmp right) 7 (sq1 adL2)) (fgS 20 (blkF 2 (loopF 7 20 (den (adΓ known within child wants ref_ act_Do ref8_Do cmp right) 7 adB2))))) (den (adΓ known within child wants ref_ act_Do ref8_Do cmp right) 7 adE)) (adA op ns ps n i k l) (finK Try.f3) = some (.ret (bo true)) := by
  refine (ad_mid known within child wants ref_ act_Do ref8_Do cmp right op ns ps n i k l _ _ _).trans ?_
  obtain ⟨o, ho, o0, o1⟩ := hw op 16 (by omega) (by omega)
  obtain ⟨c, hcw, c1, c6⟩ := hwants o o0 o1
  rw [ho, Option.bind_some, blkF_is]
  refine ad_loop2_0 known within child wants ref_ act_Do ref8_Do cmp right op ns ps n i k l o c hcw c1 c6 (fun x => hw x _ (by omega) (by omega)) fun j q p hp hpl => ?_
  rw [blk_exit]
  exact ad_w3 known within child wants ref_ act_Do ref8_Do cmp right op ns ps n i k l o j q p hm (hd o l p o0 o1 hl l0 l6 (by rw [hcw, hpl]) hp)
theorem ad_walk {P : S27 → Prop} (hk : known () = some true) (hns : (ns.length : Int) ≤ 4611686018427387904)
    (hw : ∀ x c : Int, 0 < c → c ≤ 1099511627776 → ∃ t, within (x, c) = some t ∧ 0 ≤ t ∧ t < c) (hc : ∀ t, 0 ≤ t → t < 1099511627776 → ∃ v, child t = some v ∧ P v)
    (hwants : ∀ o, 0 ≤ o → o < 16 → ∃ c, wants (o, n) = some c ∧ 1 ≤ c ∧ c ≤ 6) {m : Mom} (hm : ref_ n = some m)
    (hd : ∀ o l p, 0 ≤ o → o < 16 → (∀ v ∈ l, P v) → 0 < l.length → l.length ≤ 6 → wants (o, n) = some (p.length : Int) → (∀ x ∈ p, 0 ≤ x ∧ x < (l.length : Int)) → Does act_Do ref8_Do cmp right o p l m) :
    adF (adΓ known within child wants ref_ act_Do ref8_Do cmp right) (init Try.f3 ((oc sI (oc sL (oc sL (o1 sI)))).enc (op, ns, ps, n))) (finK Try.f3) = some (.ret (bo true)) := by
  unfold adF
  refine (ad_pre known within child wants ref_ act_Do ref8_Do cmp right op ns ps n _ _ _).trans ?_
  rw [hk, Option.bind_some, bm_true, blkF_is]
  refine ad_loop1_0 known within child wants ref_ act_Do ref8_Do cmp right op ns ps n hns (fun x => hw x _ (by omega) (by omega)) hc fun i k l hl l0 l6 => ?_
  rw [blk_exit]
  exact ad_w2 known within child wants ref_ act_Do ref8_Do cmp right op ns ps n hw hwants hm hd i k l hl l0 l6
end
end Ev
end Go.Proofs.Ytldfljlklfhjkaa.PE
