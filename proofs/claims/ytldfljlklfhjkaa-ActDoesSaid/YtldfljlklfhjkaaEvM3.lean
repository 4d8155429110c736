/- An evaluator of a function's code over plain values: what it says of a region that draws its order is so, in whatever order. Conditions: that the table of contracts holds. -/
import Derived.Test.YtldfljlklfhjkaaEvM2
namespace Go.Proofs.Ytldfljlklfhjkaa.PE
open Go.RowKit Go.Proofs.YtldfljlklfhjkaaW.PrintWords Go.Proofs.YtldfljlklfhjkaaW.PrintLast Go.Proofs.YtldfljlklfhjkaaW.PrintMore
set_option linter.unusedVariables false
set_option linter.unusedSimpArgs false
namespace Ev
structure RepF (S0 : Sc) (w0 : World) (ρ : Nat → Nat) (ν : Nat → Value) (ow : List (Nat × Row)) (tmf : Nat → D) (l : List (Nat × BoxC)) (a : Act) (w : World) : Prop where
  below : Below w0.heap.size w0 w
  base : ∀ b, S0.bad b → b < w0.heap.size
  defers : a.defers = []
  tm : ∀ i, RepD (Sof S0 ρ ν l ow) w ρ (a.tmps.getD i undef) (tmf i)
  bx : ∀ t b, (t, b) ∈ l → w0.heap.size ≤ ρ t ∧ ∃ arr, w.heap[ρ t]? = some (.cells arr b.ty (0, 0)) ∧ All2 (RepC (Sof S0 ρ ν l ow) w) arr.toList b.cs
  own : ∀ t r, (t, r) ∈ ow → OwnR (Sof S0 ρ ν l ow) w w0.heap.size (ν t) r ∧ ∀ b, ownB (ν t) = some b → w0.heap.size ≤ b ∧ b < w.heap.size
  inj : ∀ t u b c, (t, b) ∈ l → (u, c) ∈ l → ρ t = ρ u → t = u
  keys : ∀ t b c, (t, b) ∈ l → (t, c) ∈ l → b = c
  injO : ∀ t u r q b, (t, r) ∈ ow → (u, q) ∈ ow → ownB (ν t) = some b → ownB (ν u) = some b → t = u
  injB : ∀ t r u c b, (t, r) ∈ ow → (u, c) ∈ l → ownB (ν t) = some b → ρ u ≠ b
  keysO : ∀ t r q, (t, r) ∈ ow → (t, q) ∈ ow → r = q
section
variable {S0 : Sc} {w0 : World} {ρ : Nat → Nat} {ν : Nat → Value} {s : St} {a : Act} {w : World} {tm tm' : Nat → D} {bx bx' : List (Nat × BoxC)} {ow : List (Nat × Row)}
theorem Rep.f (h : Rep S0 w0 ρ ν s a w) : RepF S0 w0 ρ ν s.ow s.tmF s.bx a w := ⟨h.below, h.base, h.defers, h.tm, h.bx, h.ow, h.inj, h.keys, h.injO, h.injB, h.keysO⟩
theorem RepF.lt (h : RepF S0 w0 ρ ν ow tm bx a w) : ∀ b, (Sof S0 ρ ν bx ow).bad b → b < w.heap.size := by
  rintro b (hb | ⟨t, c, ht, rfl⟩ | ⟨t, c, ht, hb⟩)
  · exact Nat.lt_of_lt_of_le (h.base b hb) h.below.size
  · obtain ⟨_, arr, h1, _⟩ := h.bx t c ht
    exact (Array.getElem?_eq_some_iff.1 h1).1
  · exact ((h.own t c ht).2 b hb).2
theorem put_getv (a : Act) (dst : Option Nat) (v : Value) (i : Nat) : (a.put dst v).tmps.getD i undef = if dst = some i ∧ i < a.tmps.size then v else a.tmps.getD i undef := by
  have := (put_get a dst v (List.replicate a.tmps.size D.any) .any i (by simp)).1
  exact this
def BxOk (dst : Option Nat) (bx : List (Nat × BoxC)) (u : Nat) (c : BoxC) : Eff → Prop
  | .none => (u, c) ∈ bx
  | .put t b => (u = t ∧ c = b) ∨ (u ≠ t ∧ (u, c) ∈ bx)
  | .new b => (dst = some u ∧ c = b) ∨ (dst ≠ some u ∧ (u, c) ∈ bx)
  | _ => False
theorem RepF.step (h : RepF S0 w0 ρ ν ow tm bx a w) {bv : Nat → Option BoxC} {ov : Nat → Option Row} (hbv : ∀ t c, bv t = some c → ∃ c', (t, c') ∈ bx) {dst : Option Nat} {eff : Eff} {d : D} {v : Value} {w' : World} (hne : (∀ o r, eff ≠ .app o r) ∧ ∀ t r, eff ≠ .set t r) (hs : Step (Sof S0 ρ ν bx ow) w0.heap.size ρ bv ov w dst eff d v w')
    (hT : ∀ i, tm' i = .any ∨ (dst = some i ∧ i < a.tmps.size ∧ tm' i = d) ∨ (¬ (dst = some i ∧ i < a.tmps.size) ∧ tm' i = tm i ∧ ∀ b, eff = .new b → ∀ t off, dst = some t → tm i ≠ .box t off))
    (hB : ∀ u c, (u, c) ∈ bx' → BxOk dst bx u c eff) : ∃ ρ', RepF S0 w0 ρ' ν ow tm' bx' (a.put dst v) w' := by
  have hdef : (a.put dst v).defers = [] := by rw [put_defers]; exact h.defers
  cases eff with
  | none =>
    obtain ⟨hb, hr⟩ := hs
    have mv : Mv (Sof S0 ρ ν bx ow) (Sof S0 ρ ν bx' ow) w w' := ⟨hb.size, fun b hb' _ => hb.block b hb', fun b _ hb' => by
      rcases hb' with hb' | ⟨u, c, hu, rfl⟩ | ⟨u, r, hu, he⟩
      · exact .inl hb'
      · exact .inr (.inl ⟨u, c, hB u c hu, rfl⟩)
      · exact .inr (.inr ⟨u, r, hu, he⟩), fun _ _ => rfl⟩
    have mv0 : Mv (Sof S0 ρ ν bx ow) (Sof S0 ρ ν bx' ow) w' w' := ⟨Nat.le_refl _, fun _ _ _ => rfl, fun b _ hb' => by
      rcases hb' with hb' | ⟨u, c, hu, rfl⟩ | ⟨u, r, hu, he⟩
      · exact .inl hb'
      · exact .inr (.inl ⟨u, c, hB u c hu, rfl⟩)
      · exact .inr (.inr ⟨u, r, hu, he⟩), fun _ _ => rfl⟩
    refine ⟨ρ, h.below.trans (hb.mono h.below.size), h.base, hdef, fun i => ?_, fun t b ht => ?_, fun t r ht => ?_, fun t u b c ht hu => h.inj t u b c (hB t b ht) (hB u c hu), fun t b c ht hu => h.keys t b c (hB t b ht) (hB t c hu), h.injO, fun t r u c b ht hu he => h.injB t r u c b ht (hB u c hu) he, h.keysO⟩
    · rw [put_getv]
      rcases hT i with e | ⟨e1, e2, e⟩ | ⟨e1, e, _⟩
      · rw [e]; trivial
      · rw [e, if_pos ⟨e1, e2⟩]; exact hr.mv mv0 (fun _ _ _ => rfl)
      · rw [e, if_neg e1]; exact (h.tm i).mv mv (fun _ _ _ => rfl)
    · obtain ⟨h1, arr, h2, h3⟩ := h.bx t b (hB t b ht)
      exact ⟨h1, arr, blk_below h2 hb, h3.mv mv⟩
    · obtain ⟨g1, g2⟩ := h.own t r ht
      exact ⟨g1.mv mv (fun b hb' => hb.block b (g2 b hb').2), fun b hb' => ⟨(g2 b hb').1, Nat.lt_of_lt_of_le (g2 b hb').2 hb.size⟩⟩
  | put t b =>
    obtain ⟨arr, old, c, hc, rfl, h1, rfl, h2⟩ := hs
    obtain ⟨c0, hm⟩ := hbv t c hc
    have hbase := (h.bx t c0 hm).1
    have mv0 : Mv (Sof S0 ρ ν bx ow) (Sof S0 ρ ν bx ow) w (w.setRow (ρ t) arr) := mv_setRow (.inr (.inl ⟨t, c0, hm, rfl⟩))
    have old_of : ∀ u c', (u, c') ∈ bx' → ∃ c2, (u, c2) ∈ bx := fun u c' hu => by
      rcases hB u c' hu with ⟨rfl, _⟩ | ⟨_, h3⟩
      · exact ⟨c0, hm⟩
      · exact ⟨c', h3⟩
    have mv : Mv (Sof S0 ρ ν bx ow) (Sof S0 ρ ν bx' ow) w (w.setRow (ρ t) arr) := ⟨mv0.size, mv0.block, fun x _ hx => by
      rcases hx with hx | ⟨u, c', hu, rfl⟩ | ⟨u, r, hu, he⟩
      · exact .inl hx
      · obtain ⟨c2, h3⟩ := old_of u c' hu
        exact .inr (.inl ⟨u, c2, h3, rfl⟩)
      · exact .inr (.inr ⟨u, r, hu, he⟩), fun _ _ => rfl⟩
    refine ⟨ρ, below_setRow h.below hbase, h.base, hdef, fun i => ?_, fun u c' hu => ?_, fun u r hu => ?_, fun u u' c1 c2 hu hu' he => ?_, fun u c1 c2 hu hu' => ?_, h.injO, fun u r u' c' b' hu hu' he => ?_, h.keysO⟩
    · rw [put_getv]
      rcases hT i with e | ⟨e1, e2, e⟩ | ⟨e1, e, _⟩
      · rw [e]; trivial
      · rw [e]; trivial
      · rw [e, if_neg e1]; exact (h.tm i).mv mv (fun _ _ _ => rfl)
    · rcases hB u c' hu with ⟨rfl, rfl⟩ | ⟨hne, hu'⟩
      · exact ⟨hbase, arr, setRow_heap w _ old arr _ _ h1, h2.mv mv⟩
      · obtain ⟨g1, arr', g2, g3⟩ := h.bx u c' hu'
        exact ⟨g1, arr', (setRow_other w _ _ arr (fun he => hne (h.inj u t c' c0 hu' hm he))).trans g2, g3.mv mv⟩
    · obtain ⟨g1, g2⟩ := h.own u r hu
      refine ⟨g1.mv mv (fun b' hb' => setRow_other w _ _ arr (fun e => h.injB u r t c0 b' hu hm hb' e.symm)), fun b' hb' => ⟨(g2 b' hb').1, by rw [setRow_size]; exact (g2 b' hb').2⟩⟩
    · obtain ⟨c3, h3⟩ := old_of u c1 hu
      obtain ⟨c4, h4⟩ := old_of u' c2 hu'
      exact h.inj u u' c3 c4 h3 h4 he
    · rcases hB u c1 hu with ⟨rfl, rfl⟩ | ⟨hne, h3⟩
      · rcases hB u c2 hu' with ⟨_, rfl⟩ | ⟨hne, h4⟩
        · rfl
        · exact absurd rfl hne
      · rcases hB u c2 hu' with ⟨rfl, _⟩ | ⟨_, h4⟩
        · exact absurd rfl hne
        · exact h.keys u c1 c2 h3 h4
    · obtain ⟨c3, h3⟩ := old_of u' c' hu'
      exact h.injB u r u' c3 b' hu h3 he
  | new b =>
    obtain ⟨t, arr, rfl, rfl, rfl, rfl, h2⟩ := hs
    have hlt := h.lt
    let ρ' : Nat → Nat := fun u => if u = t then w.heap.size else ρ u
    have ρt : ρ' t = w.heap.size := if_pos rfl
    have ρo : ∀ u, u ≠ t → ρ' u = ρ u := fun u hu => if_neg hu
    have two : ∀ u c', (u, c') ∈ bx' → u = t ∧ c' = b ∨ u ≠ t ∧ (u, c') ∈ bx := fun u c' hu => by
      rcases hB u c' hu with ⟨e, rfl⟩ | ⟨hne, h3⟩
      · exact .inl ⟨(Option.some.inj e).symm, rfl⟩
      · exact .inr ⟨fun e => hne (by rw [e]), h3⟩
    have mv : Mv (Sof S0 ρ ν bx ow) (Sof S0 ρ' ν bx' ow) w (w.alloc (.cells arr b.ty)) := ⟨by simp, fun x hx _ => Below.heap_alloc w _ x hx, fun x hx hs => by
      rcases hs with hs | ⟨u, c', hu, rfl⟩ | ⟨u, r, hu, he⟩
      · exact .inl hs
      · rcases two u c' hu with ⟨rfl, _⟩ | ⟨hne, h3⟩
        · rw [ρt] at hx; omega
        · exact .inr (.inl ⟨u, c', h3, (ρo u hne).symm⟩)
      · exact .inr (.inr ⟨u, r, hu, he⟩), fun _ _ => rfl⟩
    refine ⟨ρ', below_alloc h.below _, h.base, h.defers, fun i => ?_, fun u c' hu => ?_, fun u r hu => ?_, fun u u' c1 c2 hu hu' he => ?_, fun u c1 c2 hu hu' => ?_, h.injO, fun u r u' c' b' hu hu' he => ?_, h.keysO⟩
    · rw [put_getv]
      rcases hT i with e | ⟨e1, e2, e⟩ | ⟨e1, e, e3⟩
      · rw [e]; trivial
      · rw [e, if_pos ⟨e1, e2⟩]; show _ = _; rw [ρt]
      · rw [e, if_neg e1]
        refine (h.tm i).mv mv (fun t' off' he => ρo _ ?_)
        rintro rfl
        exact e3 b rfl t' off' rfl he
    · rcases two u c' hu with ⟨rfl, rfl⟩ | ⟨hne, hu'⟩
      · rw [ρt]; exact ⟨h.below.size, arr, heap_alloc_new w _, h2.mv mv⟩
      · obtain ⟨g1, arr', g2, g3⟩ := h.bx u c' hu'
        rw [ρo u hne]
        exact ⟨g1, arr', blk_alloc g2 _, g3.mv mv⟩
    · obtain ⟨g1, g2⟩ := h.own u r hu
      refine ⟨g1.mv mv (fun b' hb' => Below.heap_alloc w _ _ (g2 b' hb').2), fun b' hb' => ⟨(g2 b' hb').1, ?_⟩⟩
      have := (g2 b' hb').2
      simp; omega
    · rcases two u c1 hu with ⟨rfl, _⟩ | ⟨hne, h3⟩ <;> rcases two u' c2 hu' with ⟨rfl, _⟩ | ⟨hne', h4⟩
      · rfl
      · rw [ρt, ρo u' hne'] at he; have := hlt _ (.inr (.inl ⟨u', c2, h4, rfl⟩)); omega
      · rw [ρt, ρo u hne] at he; have := hlt _ (.inr (.inl ⟨u, c1, h3, rfl⟩)); omega
      · rw [ρo u hne, ρo u' hne'] at he; exact h.inj u u' c1 c2 h3 h4 he
    · rcases two u c1 hu with ⟨rfl, rfl⟩ | ⟨hne, h3⟩ <;> rcases two u c2 hu' with ⟨he, hc⟩ | ⟨hne', h4⟩
      · exact hc.symm
      · exact absurd rfl hne'
      · exact absurd he hne
      · exact h.keys u c1 c2 h3 h4
    · rcases two u' c' hu' with ⟨rfl, _⟩ | ⟨hne', h3⟩
      · rw [ρt]; have := ((h.own u r hu).2 b' he).2; omega
      · rw [ρo u' hne']; exact h.injB u r u' c' b' hu h3 he
  | app o r => exact absurd rfl (hne.1 o r)
  | set t r => exact absurd rfl (hne.2 t r)
end
/-! ### One way through an operation -/
theorem splitB_path (b : Bool) : ∀ k : Bool → Res, splitB b k = k b := by intro k; cases b <;> rfl
theorem splitC_path (c : Ce) : ∀ k : Ce → Res, splitC c k = k c := by intro k; cases c <;> first | rfl | exact splitB_path _ (fun b => k (.bool b))
theorem split1_path (d : D1) : ∀ k : D1 → Res, split1 d k = k d := by intro k; cases d <;> first | rfl | exact splitC_path _ (fun c => k (.ce c))
theorem splitL_path : ∀ (l : List D1) (k : List D1 → Res), splitL l k = k l
  | [], k => rfl
  | d :: l, k => by
    show split1 d (fun d => splitL l fun r => k (d :: r)) = k (d :: l)
    rw [split1_path, splitL_path]
theorem splitD_path (d : D) : ∀ k : D → Res, splitD d k = k d := by
  intro k
  cases d with
  | one d => exact split1_path d (fun d => k (.one d))
  | tup l => exact splitL_path l (fun l => k (.tup l))
  | _ => rfl
def Path (f : (D → Eff → Res) → Res → Res) (k : D → Eff → Res) (kd : Res) (r : Out) : Prop :=
  (∃ d eff, k d eff = some r ∧ ∀ k' kd', f k' kd' = k' d eff) ∨ (kd = some r ∧ ∀ k' kd', f k' kd' = kd')
theorem denOp_path {Γ : Ctx} (hΓ : Ok Γ) {tm : Nat → D} {bv : Nat → Option BoxC} {ov : Nat → Option Row} {dst : Option Nat} {op : Op} {k : D → Eff → Res} {kd : Res} {r : Out} (h : denOp Γ tm bv ov dst op k kd = some r) : Path (denOp Γ tm bv ov dst op) k kd r := by
  cases op <;> try (cases h; done)
  case move x => exact .inl ⟨_, _, h, fun _ _ => rfl⟩
  case assign x => exact .inl ⟨_, _, h, fun _ _ => rfl⟩
  case call c =>
    obtain ⟨callee, args, argTypes⟩ := c
    unfold Path
    simp only [denOp] at h ⊢
    split at h
    · repeat' split at h
      all_goals first
        | (cases h; done)
        | exact .inl ⟨_, _, h, fun _ _ => by first | (simp only [*, ↓reduceIte, not_false_eq_true, not_true_eq_false, Bool.false_eq_true]; done) | (simp [*]; done) | (simp_all; done) | (simp_all <;> intro hh <;> exfalso <;> omega)⟩
    · repeat' split at h
      all_goals first
        | (cases h; done)
        | exact .inl ⟨_, _, h, fun _ _ => by first | (simp only [*, ↓reduceIte, not_false_eq_true, not_true_eq_false, Bool.false_eq_true]; done) | (simp [*]; done) | (simp_all; done) | (simp_all <;> intro hh <;> exfalso <;> omega)⟩
    · repeat' split at h
      all_goals first
        | (cases h; done)
        | exact .inl ⟨_, _, h, fun _ _ => by first | (simp only [*, ↓reduceIte, not_false_eq_true, not_true_eq_false, Bool.false_eq_true]; done) | (simp [*]; done) | (simp_all; done) | (simp_all <;> intro hh <;> exfalso <;> omega)⟩
    · repeat' split at h
      all_goals first
        | (cases h; done)
        | exact .inl ⟨_, _, h, fun _ _ => by first | (simp only [*, ↓reduceIte, not_false_eq_true, not_true_eq_false, Bool.false_eq_true]; done) | (simp [*]; done) | (simp_all; done) | (simp_all <;> intro hh <;> exfalso <;> omega)⟩
    · rename_i fo f
      split at h
      · rename_i sp hsp
        split at h
        · rename_i ds hds
          obtain ⟨out, h1, h2, _⟩ := (hΓ _ (lookup_mem' hsp)).calls _ _ _ h
          have h2 : ∀ k', sp ds k' = k' out := h2
          simp only [h2]
          cases out with
          | dies => exact .inr ⟨h1, fun _ _ => rfl⟩
          | ret d =>
            cases d with
            | one d => simp only [split1_path] at h1 ⊢; exact .inl ⟨_, _, h1, fun _ _ => rfl⟩
            | tup l => simp only [splitL_path] at h1 ⊢; exact .inl ⟨_, _, h1, fun _ _ => rfl⟩
            | _ => cases h1
        · cases h
      · cases h
    · cases h
  all_goals
    unfold Path
    simp only [denOp, denBin] at h ⊢
    try simp only [splitB_path, split1_path, splitL_path, splitD_path] at h ⊢
    repeat' split at h
    all_goals first
      | (cases h; done)
      | exact .inl ⟨_, _, h, fun _ _ => by first | (simp only [*, ↓reduceIte, not_false_eq_true, not_true_eq_false, Bool.false_eq_true]; done) | (simp [*]; done) | (simp_all; done) | (simp_all <;> intro hh <;> exfalso <;> omega)⟩
      | exact .inr ⟨h, fun _ _ => by first | (simp only [*, ↓reduceIte, not_false_eq_true, not_true_eq_false, Bool.false_eq_true]; done) | (simp [*]; done) | (simp_all; done) | (simp_all <;> intro hh <;> exfalso <;> omega)⟩
/-! ### Masks: what stands ahead of what -/
theorem maskOf_bit (acc : List Nat) (j : Nat) : ∀ (es : List Nat) (s : Nat), (es.foldl (fun s e => s ||| (2 ^ e ||| acc.getD e 0)) s).testBit j = true → s.testBit j = true ∨ ∃ e ∈ es, e = j ∨ (acc.getD e 0).testBit j = true
  | [], s, h => .inl h
  | e :: es, s, h => by
    rw [List.foldl_cons] at h
    rcases maskOf_bit acc j es _ h with h | ⟨e', h1, h2⟩
    · rw [Nat.testBit_or, Nat.testBit_or, Bool.or_eq_true, Bool.or_eq_true] at h
      rcases h with h | h | h
      · exact .inl h
      · rw [Nat.testBit_two_pow] at h
        exact .inr ⟨e, List.mem_cons_self, .inl (by simpa using h)⟩
      · exact .inr ⟨e, List.mem_cons_self, .inr h⟩
    · exact .inr ⟨e', List.mem_cons_of_mem _ h1, h2⟩
theorem masks_get : ∀ (L : List Oper) (acc : List Nat), (L.foldl masksF acc).take acc.length = acc ∧ (L.foldl masksF acc).length = acc.length + L.length ∧ ∀ i o, L[i]? = some o → (L.foldl masksF acc)[acc.length + i]? = some (maskOf ((L.foldl masksF acc).take (acc.length + i)) (edges o))
  | [], acc => ⟨by simp, by simp, fun i o h => by simp at h⟩
  | x :: L, acc => by
    rw [List.foldl_cons]
    obtain ⟨h1, h2, h3⟩ := masks_get L (masksF acc x)
    have hl : (masksF acc x).length = acc.length + 1 := by simp [masksF]
    rw [hl] at h1 h2 h3
    have h0 : (L.foldl masksF (masksF acc x)).take acc.length = acc := by
      have := congrArg (List.take acc.length) h1
      rw [List.take_take, Nat.min_eq_left (by omega)] at this
      rw [this]; simp [masksF]
    refine ⟨h0, by rw [h2]; simp; omega, fun i o h => ?_⟩
    cases i with
    | zero =>
      obtain rfl : x = o := by simpa using h
      rw [Nat.add_zero, h0]
      have := congrArg (fun l => l[acc.length]?) h1
      simp only [List.getElem?_take, if_pos (show acc.length < acc.length + 1 by omega)] at this
      rw [this]; simp [masksF]
    | succ i =>
      have := h3 i o (by simpa using h)
      rw [show acc.length + (i + 1) = acc.length + 1 + i by omega]
      exact this
theorem mask_done {L : List Oper} {done : Nat → Bool} (hcl : ∀ i o, L[i]? = some o → done i = true → ∀ e ∈ edges o, done e = true) : ∀ (i : Nat) (o : Oper), L[i]? = some o → (∀ e ∈ edges o, done e = true) → ∀ j, bit (masks L) i j = true → done j = true := by
  intro i
  induction i using Nat.strongRecOn with
  | _ i ih =>
    intro o ho he j hb
    obtain ⟨_, hlen, hg⟩ := masks_get L []
    have h1 : (masks L)[i]? = some (maskOf ((masks L).take i) (edges o)) := by simpa [masks] using hg i o ho
    unfold bit at hb
    rw [List.getD_eq_getElem?_getD, h1, Option.getD_some] at hb
    unfold maskOf at hb
    rcases maskOf_bit _ j _ _ hb with h | ⟨e, h2, h3⟩
    · simp at h
    · rcases h3 with rfl | h3
      · exact he e h2
      · rw [List.getD_eq_getElem?_getD, List.getElem?_take] at h3
        split at h3
        · rename_i hlt
          have hli : i < L.length := (List.getElem?_eq_some_iff.1 ho).1
          obtain ⟨oe, hoe⟩ : ∃ oe, L[e]? = some oe := ⟨_, List.getElem?_eq_getElem (by omega)⟩
          exact ih e hlt oe hoe (hcl e oe hoe (he e h2)) j (by unfold bit; rw [List.getD_eq_getElem?_getD]; exact h3)
        · simp at h3
/-! ### Lookups -/
theorem dstOf_get {slot : Nat} : ∀ {L : List Oper} {i j : Nat}, dstOf slot L i = some j → ∃ o, i ≤ j ∧ L[j - i]? = some o ∧ o.dst = some slot
  | [], i, j, h => by cases h
  | o :: r, i, j, h => by
    have rec_ : dstOf slot r (i + 1) = some j → ∃ o', i ≤ j ∧ (o :: r)[j - i]? = some o' ∧ o'.dst = some slot := fun h => by
      obtain ⟨o', h1, h2, h3⟩ := dstOf_get h
      exact ⟨o', by omega, by rw [show j - i = (j - (i + 1)) + 1 by omega]; simpa using h2, h3⟩
    unfold dstOf at h
    split at h
    · rename_i d hd
      split at h
      · rename_i he
        subst he
        have h := Option.some.inj h
        subst h
        exact ⟨o, Nat.le_refl _, by simp, hd⟩
      · exact rec_ h
    · exact rec_ h
theorem chkOps_get {L : List Oper} {s0 : St} : ∀ {r : List Oper} {i : Nat}, chkOps L s0 r i = true → ∀ j o, r[j]? = some o → (∀ d, o.dst = some d → dstOf d L 0 = some (i + j) ∧ d < s0.tm.length) ∧ ∀ e ∈ edges o, e < i + j
  | [], i, h, j, o, ho => by simp at ho
  | x :: r, i, h, j, o, ho => by
    unfold chkOps at h
    rw [Bool.and_eq_true, Bool.and_eq_true] at h
    obtain ⟨⟨h1, h2⟩, h3⟩ := h
    cases j with
    | zero =>
      obtain rfl : x = o := by simpa using ho
      refine ⟨fun d hd => ?_, fun e he => by simpa using List.all_eq_true.1 h2 e he⟩
      rw [hd] at h1
      simpa using h1
    | succ j =>
      have := chkOps_get h3 j o (by simpa using ho)
      rwa [show i + 1 + j = i + (j + 1) by omega] at this
theorem findOp_get {p : Nat → Oper → Bool} : ∀ {L : List Oper} {i : Nat} {x : Nat × Oper}, findOp p L i = some x → i ≤ x.1 ∧ L[x.1 - i]? = some x.2 ∧ p x.1 x.2 = true
  | [], i, x, h => by cases h
  | o :: r, i, x, h => by
    unfold findOp at h
    split at h
    · rename_i hp
      have h := Option.some.inj h
      subst h
      exact ⟨Nat.le_refl _, by simp, hp⟩
    · obtain ⟨h1, h2, h3⟩ := findOp_get h
      exact ⟨by omega, by rw [show x.1 - i = (x.1 - (i + 1)) + 1 by omega]; simpa using h2, h3⟩
theorem nextOp_get {L : List Oper} {recs : Recs} {i : Nat} {o : Oper} (h : nextOp L recs = some (i, o)) : L[i]? = some o ∧ doneR recs i = false ∧ ∀ e ∈ edges o, doneR recs e = true := by
  have key : may recs i o = true → doneR recs i = false ∧ ∀ e ∈ edges o, doneR recs e = true := fun h => by
    unfold may at h
    rw [Bool.and_eq_true] at h
    exact ⟨by simpa using h.1, fun e he => List.all_eq_true.1 h.2 e he⟩
  unfold nextOp at h
  split at h
  · rename_i x hx
    have h := Option.some.inj h
    subst h
    obtain ⟨_, h2, h3⟩ := findOp_get hx
    rw [Bool.and_eq_true] at h3
    exact ⟨by simpa using h2, key h3.1⟩
  · obtain ⟨_, h2, h3⟩ := findOp_get h
    exact ⟨by simpa using h2, key h3⟩
theorem putOf_get {t : Nat} : ∀ {recs : Recs} {j : Nat} {b : BoxC}, putOf t recs = some (j, b) → ∃ c, (j, c) ∈ recs ∧ c.eff = .put t b
  | [], j, b, h => by cases h
  | (i, c) :: r, j, b, h => by
    have rec_ : putOf t r = some (j, b) → ∃ c', (j, c') ∈ (i, c) :: r ∧ c'.eff = .put t b := fun h => by
      obtain ⟨c', h1, h2⟩ := putOf_get h
      exact ⟨c', List.mem_cons_of_mem _ h1, h2⟩
    unfold putOf at h
    split at h
    · rename_i u b' he
      split at h
      · rename_i hu
        subst hu
        simp only [Option.some.injEq, Prod.mk.injEq] at h
        obtain ⟨rfl, rfl⟩ := h
        exact ⟨c, List.mem_cons_self, he⟩
      · exact rec_ h
    · exact rec_ h
theorem putOf_some {t : Nat} : ∀ {recs : Recs} {j : Nat} {c : Rec} {b : BoxC}, (j, c) ∈ recs → c.eff = .put t b → ∃ x, putOf t recs = some x
  | [], j, c, b, h, _ => by cases h
  | (i, c') :: r, j, c, b, h, he => by
    unfold putOf
    rcases List.mem_cons.1 h with h | h
    · simp only [Prod.mk.injEq] at h
      obtain ⟨rfl, rfl⟩ := h
      rw [he]
      exact ⟨(j, b), by simp⟩
    · split
      · split
        · exact ⟨_, rfl⟩
        · exact putOf_some h he
      · exact putOf_some h he
theorem newOf_get {t : Nat} : ∀ {recs : Recs} {j : Nat} {b : BoxC}, newOf t recs = some (j, b) → ∃ c, (j, c) ∈ recs ∧ c.eff = .new b ∧ c.dst = some t
  | [], j, b, h => by cases h
  | (i, c) :: r, j, b, h => by
    have rec_ : newOf t r = some (j, b) → ∃ c', (j, c') ∈ (i, c) :: r ∧ c'.eff = .new b ∧ c'.dst = some t := fun h => by
      obtain ⟨c', h1, h2⟩ := newOf_get h
      exact ⟨c', List.mem_cons_of_mem _ h1, h2⟩
    unfold newOf at h
    split at h
    · rename_i b' u he hd
      split at h
      · rename_i hu
        subst hu
        simp only [Option.some.injEq, Prod.mk.injEq] at h
        obtain ⟨rfl, rfl⟩ := h
        exact ⟨c, List.mem_cons_self, he, hd⟩
      · exact rec_ h
    · exact rec_ h
theorem newsL_get {l : Nat → Bool} {recs0 : Recs} {u : Nat} {x : BoxC} : ∀ {recs : Recs}, (u, x) ∈ newsL recs0 l recs → ∃ j c b, (j, c) ∈ recs ∧ c.eff = .new b ∧ c.dst = some u ∧ l j = true ∧ x = curOf recs0 l u b
  | [], h => by cases h
  | (i, c) :: r, h => by
    have rec_ : (u, x) ∈ newsL recs0 l r → ∃ j c' b, (j, c') ∈ (i, c) :: r ∧ c'.eff = .new b ∧ c'.dst = some u ∧ l j = true ∧ x = curOf recs0 l u b := fun h => by
      obtain ⟨j, c', b, h1, h2⟩ := newsL_get h
      exact ⟨j, c', b, List.mem_cons_of_mem _ h1, h2⟩
    unfold newsL at h
    split at h
    · rename_i b t he hd
      split at h
      · rename_i hl
        rcases List.mem_cons.1 h with h | h
        · simp only [Prod.mk.injEq] at h
          obtain ⟨rfl, rfl⟩ := h
          exact ⟨i, c, b, List.mem_cons_self, he, hd, hl, rfl⟩
        · exact rec_ h
      · exact rec_ h
    · exact rec_ h
theorem newsL_put {l : Nat → Bool} {recs0 : Recs} {u j : Nat} {c : Rec} {b : BoxC} : ∀ {recs : Recs}, (j, c) ∈ recs → c.eff = .new b → c.dst = some u → l j = true → (u, curOf recs0 l u b) ∈ newsL recs0 l recs
  | [], h, _, _, _ => by cases h
  | (i, c') :: r, h, he, hd, hl => by
    unfold newsL
    rcases List.mem_cons.1 h with h | h
    · simp only [Prod.mk.injEq] at h
      obtain ⟨rfl, rfl⟩ := h
      rw [he, hd]
      simp only [hl, if_true]
      exact List.mem_cons_self
    · have := newsL_put (recs0 := recs0) h he hd hl
      split
      · split
        · exact List.mem_cons_of_mem _ this
        · exact this
      · exact this
theorem curOf_same {recs : Recs} {l l' : Nat → Bool} {t : Nat} {b : BoxC} (h : ∀ j x, putOf t recs = some (j, x) → l' j = l j) : curOf recs l' t b = curOf recs l t b := by
  unfold curOf
  split
  · rename_i j x hp; rw [h j x hp]
  · rfl
/-! ### One way through a region -/
structure Fact (Γ : Ctx) (ops : Array Oper) (L : List Oper) (s0 : St) (recs : Recs) (i : Nat) (o : Oper) (c : Rec) : Prop where
  dst : c.dst = o.dst
  rp : ∃ rp : Recs, (∀ j c', rp.lookup j = some c' → recs.lookup j = some c') ∧ (∀ e ∈ edges o, doneR rp e = true) ∧ (∀ j oj, L[j]? = some oj → doneR rp j = true → ∀ e ∈ edges oj, doneR rp e = true) ∧ (∀ j c', (j, c') ∈ rp → rp.lookup j = some c') ∧
    (guardD ops (tmV L (masks L) s0 rp i) o = some true ∧ c.touch = touchOf (tmV L (masks L) s0 rp i) o.op ∧ (∀ k' kd', denOp Γ (tmV L (masks L) s0 rp i) (bvV (masks L) s0 rp i c.touch) s0.ovF o.dst o.op k' kd' = k' c.d c.eff) ∨ guardD ops (tmV L (masks L) s0 rp i) o = some false ∧ c.d = .tup [] ∧ c.eff = .none)
structure Inv (Γ : Ctx) (ops : Array Oper) (L : List Oper) (s0 : St) (recs : Recs) : Prop where
  fact : ∀ i c, recs.lookup i = some c → ∃ o, L[i]? = some o ∧ Fact Γ ops L s0 recs i o c
  cl : ∀ j oj, L[j]? = some oj → doneR recs j = true → ∀ e ∈ edges oj, doneR recs e = true
  mem : ∀ j c', (j, c') ∈ recs → recs.lookup j = some c'
theorem lookup_cons' {recs : Recs} {i j : Nat} {c : Rec} (hi : doneR recs i = false) : ∀ c', recs.lookup j = some c' → ((i, c) :: recs).lookup j = some c' := by
  intro c' h
  rw [List.lookup_cons]
  split
  · rename_i he
    have he := beq_iff_eq.1 he
    subst he
    unfold doneR at hi
    rw [h] at hi; cases hi
  · exact h
theorem Inv.cons {Γ : Ctx} {ops : Array Oper} {L : List Oper} {s0 : St} {recs : Recs} (h : Inv Γ ops L s0 recs) {i : Nat} {o : Oper} {c : Rec} (ho : L[i]? = some o) (hi : doneR recs i = false) (he : ∀ e ∈ edges o, doneR recs e = true) (hd : c.dst = o.dst)
    (hf : guardD ops (tmV L (masks L) s0 recs i) o = some true ∧ c.touch = touchOf (tmV L (masks L) s0 recs i) o.op ∧ (∀ k' kd', denOp Γ (tmV L (masks L) s0 recs i) (bvV (masks L) s0 recs i c.touch) s0.ovF o.dst o.op k' kd' = k' c.d c.eff) ∨ guardD ops (tmV L (masks L) s0 recs i) o = some false ∧ c.d = .tup [] ∧ c.eff = .none) : Inv Γ ops L s0 ((i, c) :: recs) := by
  have hmono : ∀ j c', recs.lookup j = some c' → ((i, c) :: recs).lookup j = some c' := fun j => lookup_cons' hi
  have hdone : ∀ j, doneR recs j = true → doneR ((i, c) :: recs) j = true := fun j h => by
    unfold doneR at h ⊢
    obtain ⟨x, hx⟩ := Option.isSome_iff_exists.1 h
    rw [hmono j x hx]; rfl
  have hcase : ∀ j x, ((i, c) :: recs).lookup j = some x → (j = i ∧ x = c) ∨ recs.lookup j = some x := fun j x h => by
    rw [List.lookup_cons] at h
    split at h
    · rename_i e; exact .inl ⟨beq_iff_eq.1 e, (Option.some.inj h).symm⟩
    · exact .inr h
  refine ⟨fun j x hx => ?_, fun j oj hj hdj => ?_, fun j x hx => ?_⟩
  · rcases hcase j x hx with ⟨rfl, rfl⟩ | hx
    · exact ⟨o, ho, hd, recs, hmono, he, h.cl, h.mem, hf⟩
    · obtain ⟨oj, h1, h2, rp, h3, h4⟩ := h.fact j x hx
      exact ⟨oj, h1, h2, rp, fun j' c' h' => hmono j' c' (h3 j' c' h'), h4⟩
  · intro e hee
    unfold doneR at hdj
    obtain ⟨x, hx⟩ := Option.isSome_iff_exists.1 hdj
    rcases hcase j x hx with ⟨rfl, rfl⟩ | hx
    · rw [ho] at hj
      obtain rfl := Option.some.inj hj
      exact hdone e (he e hee)
    · exact hdone e (h.cl j oj hj (by unfold doneR; rw [hx]; rfl) e hee)
  · rcases List.mem_cons.1 hx with hx | hx
    · simp only [Prod.mk.injEq] at hx
      obtain ⟨rfl, rfl⟩ := hx
      simp [List.lookup_cons]
    · exact hmono j x (h.mem j x hx)
/-- An operation that dies. -/
structure DieAt (Γ : Ctx) (ops : Array Oper) (L : List Oper) (s0 : St) (recs : Recs) (i : Nat) (o : Oper) : Prop where
  at_ : L[i]? = some o
  new : doneR recs i = false
  edges : ∀ e ∈ edges o, doneR recs e = true
  guard : guardD ops (tmV L (masks L) s0 recs i) o = some true
  chk : chkDie L (masks L) s0 recs i = true
  op : ∀ k' kd', denOp Γ (tmV L (masks L) s0 recs i) (bvV (masks L) s0 recs i (touchOf (tmV L (masks L) s0 recs i) o.op)) s0.ovF o.dst o.op k' kd' = kd'
theorem denDr_path {Γ : Ctx} (hΓ : Ok Γ) {ops : Array Oper} {L : List Oper} {s0 : St} {k : Recs → Res} {r : Out} : ∀ (n : Nat) (recs : Recs), Inv Γ ops L s0 recs → denDr Γ ops L (masks L) s0 n recs k = some r → ∃ recs', Inv Γ ops L s0 recs' ∧ (k recs' = some r ∨ r = .dies ∧ ∃ i o, DieAt Γ ops L s0 recs' i o)
  | 0, recs, hI, h => ⟨recs, hI, .inl h⟩
  | n + 1, recs, hI, h => by
    rw [denDr_succ] at h
    split at h
    · exact ⟨recs, hI, .inl h⟩
    · rename_i i o hn
      obtain ⟨h1, h2, h3⟩ := nextOp_get hn
      split at h
      · rename_i hg
        rcases denOp_path hΓ h with ⟨d, eff, h4, h5⟩ | ⟨h4, h5⟩
        · exact denDr_path hΓ n _ (hI.cons h1 h2 h3 rfl (.inl ⟨hg, rfl, h5⟩)) h4
        · split at h4
          · rename_i hc
            exact ⟨recs, hI, .inr ⟨(Option.some.inj h4).symm, i, o, h1, h2, h3, hg, hc, h5⟩⟩
          · cases h4
      · rename_i hg
        exact denDr_path hΓ n _ (hI.cons h1 h2 h3 rfl (.inr ⟨hg, rfl, rfl⟩)) h
      · cases h
/-! ### Any order, by what is kept -/
theorem filter_le (p q : Nat → Bool) (hpq : ∀ x, p x = true → q x = true) : ∀ L : List Nat, (L.filter p).length ≤ (L.filter q).length
  | [] => Nat.le_refl _
  | x :: L => by
    have ih := filter_le p q hpq L
    by_cases h : p x = true
    · rw [List.filter_cons_of_pos h, List.filter_cons_of_pos (hpq x h)]
      simp only [List.length_cons]; omega
    · rw [List.filter_cons_of_neg h]
      by_cases h' : q x = true
      · rw [List.filter_cons_of_pos h']; simp only [List.length_cons]; omega
      · rw [List.filter_cons_of_neg h']; exact ih
theorem filter_lt (p q : Nat → Bool) (hpq : ∀ x, p x = true → q x = true) (i : Nat) (hp : p i = false) (hq : q i = true) : ∀ L : List Nat, i ∈ L → (L.filter p).length < (L.filter q).length
  | [], h => by cases h
  | x :: L, h => by
    by_cases hx : x = i
    · subst hx
      rw [List.filter_cons_of_neg (by simp [hp]), List.filter_cons_of_pos hq]
      have := filter_le p q hpq L
      simp only [List.length_cons]; omega
    · have ih := filter_lt p q hpq i hp hq L ((List.mem_cons.1 h).resolve_left (fun e => hx e.symm))
      by_cases h1 : p x = true
      · rw [List.filter_cons_of_pos h1, List.filter_cons_of_pos (hpq x h1)]
        simp only [List.length_cons]; omega
      · rw [List.filter_cons_of_neg h1]
        by_cases h' : q x = true
        · rw [List.filter_cons_of_pos h']; simp only [List.length_cons]; omega
        · rw [List.filter_cons_of_neg h']; exact ih
theorem get_set (l : Array Bool) (i j : Nat) (b : Bool) : (l.setIfInBounds i true).getD j b = if i = j ∧ i < l.size then true else l.getD j b := by
  rw [Array.getD_eq_getD_getElem?, Array.getD_eq_getD_getElem?, Array.getElem?_setIfInBounds]
  by_cases h : i = j
  · subst h
    by_cases h' : i < l.size
    · simp [h']
    · simp [h', Array.getElem?_eq_none (Nat.le_of_not_lt h')]
  · simp [h]
section
variable {P : Program} {ops : Array Oper} {Q : Exit → Act → World → Prop} {md : Region.Mode}
theorem wpAny_inv (I : Array Bool → Act → World → Prop) (hsz : ∀ l a w, I l a w → l.size = ops.size)
    (hs : ∀ l a w i, I l a w → i ∈ Region.ready md ops l → wpOp P ops Q i (I (l.setIfInBounds i true)) a w)
    (he : ∀ l a w, I l a w → Region.ready md ops l = [] → Q .normal a w) :
    ∀ fuel l a w, I l a w → ((List.range ops.size).filter fun j => !l.getD j true).length ≤ fuel → wpAny P md ops Q fuel l a w
  | 0, l, a, w, h, hc => by
    have hr : Region.ready md ops l = [] := by
      refine List.eq_nil_iff_forall_not_mem.2 (fun i hi => ?_)
      obtain ⟨h1, h2⟩ := List.mem_filter.1 hi
      have h3 : (!l.getD i true) = true := (Bool.and_eq_true _ _ ▸ h2 : _ ∧ _).1
      have : i ∈ (List.range ops.size).filter fun j => !l.getD j true := List.mem_filter.2 ⟨h1, h3⟩
      rw [List.eq_nil_of_length_eq_zero (Nat.le_zero.1 hc)] at this
      cases this
    exact ⟨hr, he l a w h hr⟩
  | fuel + 1, l, a, w, h, hc => by
    refine ⟨he l a w h, fun i hi => wpOp_mono (fun a' w' hI => wpAny_inv I hsz hs he fuel _ a' w' hI ?_) (hs l a w i h hi)⟩
    obtain ⟨h1, h2⟩ := List.mem_filter.1 hi
    have h3 : (!l.getD i true) = true := (Bool.and_eq_true _ _ ▸ h2 : _ ∧ _).1
    have hlt : i < l.size := by rw [hsz l a w h]; exact List.mem_range.1 h1
    have := filter_lt (fun j => !(l.setIfInBounds i true).getD j true) (fun j => !l.getD j true) (fun x hx => by
      rw [get_set] at hx
      split at hx
      · simp at hx
      · exact hx) i (by show (!(l.setIfInBounds i true).getD i true) = false; rw [get_set, if_pos ⟨rfl, hlt⟩]; rfl) h3 (List.range ops.size) h1
    omega
end
/-! ### What is kept -/
section
variable {Γ : Ctx} {ops : Array Oper} {s0 : St} {recs : Recs} {S0 : Sc} {w0 : World} {ν : Nat → Value} {Q : Exit → Act → World → Prop} {r : Out}
def lget (l : Array Bool) (j : Nat) : Bool := l.getD j false
structure Keep (ops : Array Oper) (s0 : St) (recs : Recs) (S0 : Sc) (w0 : World) (ν : Nat → Value) (l : Array Bool) (a : Act) (w : World) : Prop where
  size : l.size = ops.size
  cl : ∀ i o, ops.toList[i]? = some o → lget l i = true → ∀ e ∈ edges o, lget l e = true
  proc : ∀ j, lget l j = true → doneR recs j = true
  tsz : a.tmps.size = s0.tm.length
  rep : ∃ ρ, RepF S0 w0 ρ ν s0.ow (tmL ops.toList s0 recs (lget l)) (bxL s0 recs (lget l)) a w
theorem ready_get {l : Array Bool} {i : Nat} (h : i ∈ Region.ready .any ops l) : ∃ o, ops.toList[i]? = some o ∧ lget l i = false ∧ ∀ e ∈ edges o, lget l e = true := by
  obtain ⟨h1, h2⟩ := List.mem_filter.1 h
  rw [Bool.and_eq_true] at h2
  obtain ⟨h2, h3⟩ := h2
  have hi : i < ops.size := List.mem_range.1 h1
  obtain ⟨o, ho⟩ : ∃ o, ops[i]? = some o := ⟨_, Array.getElem?_eq_getElem hi⟩
  rw [ho] at h3
  have h3 : (o.after.all fun e => !Region.binds .any e || l.getD e.on false) = true := h3
  refine ⟨o, by simpa using ho, ?_, fun e he => ?_⟩
  · have : l.getD i true = false := by simpa using h2
    unfold lget
    rw [Array.getD_eq_getD_getElem?] at this ⊢
    cases hl : l[i]? with
    | none => rfl
    | some b => rw [hl] at this; exact this
  · unfold edges at he
    obtain ⟨x, hx, rfl⟩ := List.mem_map.1 he
    obtain ⟨hx1, hx2⟩ := List.mem_filter.1 hx
    have := (Array.all_eq_true_iff_forall_mem.1 h3) x (by simpa using hx1)
    rw [hx2] at this
    simpa [lget] using this
theorem ready_nil {l : Array Bool} (hl : l.size = ops.size) (hc : chkOps ops.toList s0 ops.toList 0 = true) (h : Region.ready .any ops l = []) : ∀ i, i < ops.size → lget l i = true := by
  intro i
  induction i using Nat.strongRecOn with
  | _ i ih =>
    intro hi
    cases hb : lget l i with
    | true => rfl
    | false =>
      exfalso
      obtain ⟨o, ho⟩ : ∃ o, ops[i]? = some o := ⟨_, Array.getElem?_eq_getElem hi⟩
      have he := (chkOps_get hc i o (by simpa using ho)).2
      have : i ∈ Region.ready .any ops l := by
        refine List.mem_filter.2 ⟨List.mem_range.2 hi, ?_⟩
        rw [Bool.and_eq_true]
        constructor
        · unfold lget at hb
          rw [Array.getD_eq_getD_getElem?, Array.getElem?_eq_getElem (by omega)] at hb ⊢
          simpa using hb
        · rw [ho]
          show (o.after.all fun e => !Region.binds .any e || l.getD e.on false) = true
          refine Array.all_eq_true_iff_forall_mem.2 (fun x hx => ?_)
          cases hbx : Region.binds .any x with
          | false => rfl
          | true =>
            have hm : x.on ∈ edges o := List.mem_map.2 ⟨x, List.mem_filter.2 ⟨by simpa using hx, hbx⟩, rfl⟩
            have := ih x.on (by have := he _ hm; omega) (by have := he _ hm; omega)
            simpa [lget] using this
      rw [h] at this
      cases this
theorem lget_set (l : Array Bool) (i j : Nat) (hi : i < l.size) : lget (l.setIfInBounds i true) j = if j = i then true else lget l j := by
  unfold lget
  rw [get_set]
  by_cases h : i = j
  · subst h; simp [hi]
  · rw [if_neg (fun x => h x.1), if_neg (fun x => h x.symm)]
theorem tmF_mem {s : St} {slot : Nat} {d : D} (h : s.tmF slot = d) : d = .any ∨ d ∈ s.tm := by
  unfold St.tmF at h
  rw [List.getD_eq_getElem?_getD] at h
  cases he : s.tm[slot]? with
  | none => rw [he] at h; exact .inl h.symm
  | some x => rw [he] at h; obtain rfl : x = d := h; exact .inr (List.mem_of_getElem? he)
theorem rec_mem {recs : Recs} {j : Nat} {c : Rec} : recs.lookup j = some c → (j, c) ∈ recs := lookup_mem'
/-- What operation i may look at, in whatever order. -/
theorem keep_env (hI : Inv Γ ops ops.toList s0 recs) (hc : chk ops.toList (masks ops.toList) s0 recs = true) {l : Array Bool} {a : Act} {w : World} (hK : Keep ops s0 recs S0 w0 ν l a w) {ρ : Nat → Nat} (hr : RepF S0 w0 ρ ν s0.ow (tmL ops.toList s0 recs (lget l)) (bxL s0 recs (lget l)) a w)
    {i : Nat} {o : Oper} (ho : ops.toList[i]? = some o) (hli : lget l i = false) (he : ∀ e ∈ edges o, lget l e = true) {rp : Recs} (hrp : ∀ j c, rp.lookup j = some c → recs.lookup j = some c) (hre : ∀ e ∈ edges o, doneR rp e = true) (hrc : ∀ j oj, ops.toList[j]? = some oj → doneR rp j = true → ∀ e ∈ edges oj, doneR rp e = true) (hrm : ∀ j c, (j, c) ∈ rp → rp.lookup j = some c)
    (touch : Option Nat) (htch : ∀ j c t b, recs.lookup j = some c → c.eff = .put t b → touch = some t → apart (masks ops.toList) j i = true) :
    Env (Sof S0 ρ ν (bxL s0 recs (lget l)) s0.ow) w0.heap.size ρ (tmV ops.toList (masks ops.toList) s0 rp i) (bvV (masks ops.toList) s0 rp i touch) s0.ovF a w ∧ ∀ t b, bvV (masks ops.toList) s0 rp i touch t = some b → (t, b) ∈ bxL s0 recs (lget l) := by
  have before : ∀ j, bit (masks ops.toList) i j = true → lget l j = true := mask_done hK.cl i o ho he
  have beforeR : ∀ j, bit (masks ops.toList) i j = true → doneR rp j = true := mask_done hrc i o ho hre
  have behind : ∀ j oj, ops.toList[j]? = some oj → bit (masks ops.toList) j i = true → lget l j = false := fun j oj hj hb => by
    cases hlj : lget l j with
    | false => rfl
    | true => rw [mask_done hK.cl j oj hj (hK.cl j oj hj hlj) i hb] at hli; cases hli
  have opOf : ∀ j c, recs.lookup j = some c → ∃ oj, ops.toList[j]? = some oj := fun j c h => by
    obtain ⟨oj, h1, _⟩ := hI.fact j c h
    exact ⟨oj, h1⟩
  have onePut : ∀ j c t b j' c' b', recs.lookup j = some c → c.eff = .put t b → recs.lookup j' = some c' → c'.eff = .put t b' → j' = j := fun j c t b j' c' b' h1 h2 h3 h4 => by
    unfold chk at hc
    rw [Bool.and_eq_true] at hc
    have h5 := List.all_eq_true.1 hc.2 _ (rec_mem h1)
    unfold chkRec at h5
    simp only [h2] at h5
    rw [Bool.and_eq_true] at h5
    have h6 := List.all_eq_true.1 h5.2 _ (rec_mem h3)
    simp only [h4] at h6
    simpa using ((Bool.and_eq_true _ _).mp h6).2
  have hput : ∀ t j b, putOf t rp = some (j, b) → ∃ c, recs.lookup j = some c ∧ c.eff = .put t b := fun t j b h => by
    obtain ⟨c, h1, h2⟩ := putOf_get h
    exact ⟨c, hrp j c (hrm j c h1), h2⟩
  have hputR : ∀ t j b, putOf t recs = some (j, b) → ∃ c, recs.lookup j = some c ∧ c.eff = .put t b := fun t j b h => by
    obtain ⟨c, h1, h2⟩ := putOf_get h
    exact ⟨c, hI.mem j c h1, h2⟩
  have bxin : ∀ t b, bvV (masks ops.toList) s0 rp i touch t = some b → (t, b) ∈ bxL s0 recs (lget l) := by
    intro t b h
    unfold bvV at h
    split at h
    · rename_i ht
      split at h
      · rename_i j b' hp
        split at h
        · rename_i hb
          obtain rfl := Option.some.inj h
          obtain ⟨c, h1, h2⟩ := hput t j b' hp
          have hlj := before j hb
          have hcur : ∀ b0, curOf recs (lget l) t b0 = b' := fun b0 => by
            obtain ⟨⟨j2, b2⟩, hp2⟩ := putOf_some (rec_mem h1) h2
            obtain ⟨c2, h3, h4⟩ := hputR t j2 b2 hp2
            have := onePut j c t b' j2 c2 b2 h1 h2 h3 h4
            subst this
            rw [h1] at h3
            obtain rfl := Option.some.inj h3
            rw [h2] at h4
            injection h4 with _ h4
            unfold curOf
            rw [hp2]
            simp only [hlj, if_true]
            exact h4.symm
          have hkey : (s0.bx.lookup t).isSome = true ∨ ∃ j' b2, newOf t recs = some (j', b2) ∧ bit (masks ops.toList) j j' = true := by
            unfold chk at hc
            rw [Bool.and_eq_true] at hc
            have h5 := List.all_eq_true.1 hc.2 _ (rec_mem h1)
            unfold chkRec at h5
            simp only [h2] at h5
            rw [Bool.and_eq_true, Bool.or_eq_true] at h5
            rcases h5.1 with h6 | h6
            · exact .inl h6
            · split at h6
              · rename_i j' b2 hn; exact .inr ⟨j', b2, hn, h6⟩
              · cases h6
          unfold bxL
          rcases hkey with hk | ⟨j', b2, hn, hb2⟩
          · obtain ⟨b0, hb0⟩ := Option.isSome_iff_exists.1 hk
            refine List.mem_append_left _ (List.mem_map.2 ⟨(t, b0), lookup_mem' hb0, ?_⟩)
            simp [hcur]
          · obtain ⟨c', h3, h4, h5⟩ := newOf_get hn
            obtain ⟨oj, hoj⟩ := opOf j c h1
            have hlj' : lget l j' = true := mask_done hK.cl j oj hoj (hK.cl j oj hoj hlj) j' hb2
            have := newsL_put (recs0 := recs) h3 h4 h5 hlj'
            rw [hcur] at this
            exact List.mem_append_right _ this
        · cases h
      · rename_i hp
        have hcur : ∀ b0, curOf recs (lget l) t b0 = b0 := fun b0 => by
          unfold curOf
          split
          · rename_i j b' hp2
            obtain ⟨c, h1, h2⟩ := hputR t j b' hp2
            have hlj : lget l j = false := by
              have hap := htch j c t b' h1 h2 ht
              unfold apart at hap
              rw [Bool.or_eq_true, Bool.or_eq_true] at hap
              rcases hap with (hap | hap) | hap
              · rw [beq_iff_eq.1 hap]; exact hli
              · obtain ⟨oj, hoj⟩ := opOf j c h1
                exact behind j oj hoj hap
              · exfalso
                have hd := beforeR j hap
                unfold doneR at hd
                obtain ⟨c2, hc2⟩ := Option.isSome_iff_exists.1 hd
                have h3 := hrp j c2 hc2
                rw [h1] at h3
                obtain rfl := Option.some.inj h3
                obtain ⟨x, hx⟩ := putOf_some (rec_mem hc2) h2
                rw [hx] at hp; cases hp
            rw [hlj]
            rfl
          · rfl
        unfold bxL
        split at h
        · rename_i b0 hb0
          obtain rfl := Option.some.inj h
          refine List.mem_append_left _ (List.mem_map.2 ⟨(t, b0), lookup_mem' hb0, ?_⟩)
          simp [hcur]
        · split at h
          · rename_i j b' hn
            split at h
            · rename_i hb
              obtain rfl := Option.some.inj h
              obtain ⟨c', h3, h4, h5⟩ := newOf_get hn
              have := newsL_put (recs0 := recs) (rec_mem (hrp j c' (hrm j c' h3))) h4 h5 (before j hb)
              rw [hcur] at this
              exact List.mem_append_right _ this
            · cases h
          · cases h
    · cases h
  refine ⟨⟨hr.lt, fun slot => ?_, fun t b hb => ?_, fun t r h => ⟨(hr.own t r (lookup_mem2 h)).1, fun b hb => .inr (.inr ⟨t, r, lookup_mem2 h, hb⟩)⟩, hr.below.size⟩, bxin⟩
  · have hv := hr.tm slot
    unfold tmL at hv
    unfold tmV
    cases hd : dstOf slot ops.toList 0 with
    | none => rw [hd] at hv; exact hv
    | some j =>
      rw [hd] at hv
      simp only at hv ⊢
      split
      · rename_i hj
        subst hj
        rw [hli] at hv
        exact hv
      · split
        · rename_i hb
          rw [before j hb] at hv
          simp only [if_true] at hv
          cases hl : rp.lookup j with
          | none => trivial
          | some c => rw [hrp j c hl] at hv; exact hv
        · split
          · rename_i hb
            obtain ⟨oj, _, hoj, _⟩ := dstOf_get hd
            rw [behind j oj (by simpa using hoj) hb] at hv
            exact hv
          · trivial
  · have hm := bxin t b hb
    exact ⟨.inr (.inl ⟨t, b, hm, rfl⟩), (hr.bx t b hm).2⟩
end
section
variable {Γ : Ctx} {ops : Array Oper} {s0 : St} {recs : Recs} {S0 : Sc} {w0 : World} {ν : Nat → Value} {Q : Exit → Act → World → Prop} {r : Out}
/-- Operation i is done: what is kept is kept. -/
theorem keep_step (hI : Inv Γ ops ops.toList s0 recs) (hc : chk ops.toList (masks ops.toList) s0 recs = true) {l : Array Bool} {a : Act} {w : World} (hK : Keep ops s0 recs S0 w0 ν l a w) {ρ : Nat → Nat} (hr : RepF S0 w0 ρ ν s0.ow (tmL ops.toList s0 recs (lget l)) (bxL s0 recs (lget l)) a w)
    {i : Nat} {o : Oper} (ho : ops.toList[i]? = some o) (hli : lget l i = false) (he : ∀ e ∈ edges o, lget l e = true) {c : Rec} (hci : recs.lookup i = some c) (hcd : c.dst = o.dst) {bv : Nat → Option BoxC} (hbv : ∀ t b, bv t = some b → (t, b) ∈ bxL s0 recs (lget l)) {v : Value} {w' : World}
    (hs : Step (Sof S0 ρ ν (bxL s0 recs (lget l)) s0.ow) w0.heap.size ρ bv s0.ovF w o.dst c.eff c.d v w') : Keep ops s0 recs S0 w0 ν (l.setIfInBounds i true) (a.put o.dst v) w' := by
  have hi : i < l.size := by
    have := (List.getElem?_eq_some_iff.1 ho).1
    rw [hK.size]; simpa using this
  have hg : ∀ j, lget (l.setIfInBounds i true) j = if j = i then true else lget l j := fun j => lget_set l i j hi
  have hgo : ∀ j, j ≠ i → lget (l.setIfInBounds i true) j = lget l j := fun j hj => by rw [hg, if_neg hj]
  have hc' := hc
  unfold chk at hc'
  rw [Bool.and_eq_true] at hc'
  obtain ⟨hops, hrecs⟩ := hc'
  have hdst : ∀ j oj, ops.toList[j]? = some oj → ∀ d, oj.dst = some d → dstOf d ops.toList 0 = some j ∧ d < s0.tm.length := fun j oj hj d hd => by
    have := (chkOps_get hops j oj hj).1 d hd
    simpa using this
  have opOf : ∀ j c, recs.lookup j = some c → ∃ oj, ops.toList[j]? = some oj ∧ c.dst = oj.dst := fun j c h => by
    obtain ⟨oj, h1, h2⟩ := hI.fact j c h
    exact ⟨oj, h1, h2.dst⟩
  have behind : ∀ j oj, ops.toList[j]? = some oj → bit (masks ops.toList) j i = true → lget l j = false := fun j oj hj hb => by
    cases hlj : lget l j with
    | false => rfl
    | true => rw [mask_done hK.cl j oj hj (hK.cl j oj hj hlj) i hb] at hli; cases hli
  have hputR : ∀ t j b, putOf t recs = some (j, b) → ∃ c, recs.lookup j = some c ∧ c.eff = .put t b := fun t j b h => by
    obtain ⟨c, h1, h2⟩ := putOf_get h
    exact ⟨c, hI.mem j c h1, h2⟩
  have hne : (∀ o r, c.eff ≠ .app o r) ∧ ∀ t r, c.eff ≠ .set t r := by
    have h5 := List.all_eq_true.1 hrecs _ (rec_mem hci)
    unfold chkRec at h5
    exact ⟨fun o r e => (by rw [e] at h5; cases h5), fun t r e => (by rw [e] at h5; cases h5)⟩
  refine ⟨by simpa using hK.size, fun j oj hj hlj e hee => ?_, fun j hlj => ?_, by rw [put_size]; exact hK.tsz, ?_⟩
  · rw [hg]
    split
    · rfl
    · by_cases hji : j = i
      · subst hji
        rw [ho] at hj
        obtain rfl := Option.some.inj hj
        exact he e hee
      · rw [hgo j hji] at hlj
        exact hK.cl j oj hj hlj e hee
  · by_cases hji : j = i
    · subst hji; unfold doneR; rw [hci]; rfl
    · rw [hgo j hji] at hlj; exact hK.proc j hlj
  · refine hr.step (fun t b hb => ⟨b, hbv t b hb⟩) hne hs (fun slot => ?_) (fun u x hx => ?_)
    · -- slots
      have notBox : ∀ b, c.eff = .new b → ∀ t off, o.dst = some t → tmL ops.toList s0 recs (lget l) slot ≠ .box t off := by
        intro b hb t off hd hbox
        have h5 := List.all_eq_true.1 hrecs _ (rec_mem hci)
        unfold chkRec at h5
        rw [hb, hcd, hd] at h5
        simp only [Bool.and_eq_true] at h5
        obtain ⟨⟨_, h6⟩, h7⟩ := h5
        have old : s0.tmF slot ≠ .box t off := fun hq => by
          rcases tmF_mem hq with hq | hq
          · cases hq
          · have := List.all_eq_true.1 h6 _ hq
            simp [isBoxOf] at this
        unfold tmL at hbox
        cases hds : dstOf slot ops.toList 0 with
        | none => rw [hds] at hbox; exact old hbox
        | some j =>
          rw [hds] at hbox
          simp only at hbox
          split at hbox
          · rename_i hlj
            split at hbox
            · rename_i cj hcj
              have := List.all_eq_true.1 h7 _ (rec_mem hcj)
              rw [hbox] at this
              simp only [isBoxOf, beq_self_eq_true, Bool.not_true, Bool.false_or, Bool.or_eq_true] at this
              rcases this with h8 | h8
              · rw [beq_iff_eq.1 h8, hli] at hlj; cases hlj
              · obtain ⟨oj, hoj, _⟩ := opOf j cj hcj
                rw [behind j oj hoj h8] at hlj; cases hlj
            · cases hbox
          · exact old hbox
      cases hds : dstOf slot ops.toList 0 with
      | none =>
        refine .inr (.inr ⟨?_, ?_, notBox⟩)
        · rintro ⟨hd, _⟩
          rw [(hdst i o ho slot hd).1] at hds; cases hds
        · unfold tmL; rw [hds]
      | some j =>
        by_cases hji : j = i
        · subst hji
          obtain ⟨oj, _, hoj, hdj⟩ := dstOf_get hds
          rw [show j - 0 = j from rfl, ho] at hoj
          obtain rfl := Option.some.inj hoj
          refine .inr (.inl ⟨hdj, by rw [hK.tsz]; exact (hdst j o ho slot hdj).2, ?_⟩)
          unfold tmL
          rw [hds]
          simp only [hg, if_true, hci]
        · refine .inr (.inr ⟨?_, ?_, notBox⟩)
          · rintro ⟨hd, _⟩
            rw [(hdst i o ho slot hd).1] at hds
            exact hji (Option.some.inj hds).symm
          · unfold tmL
            rw [hds]
            simp only [hgo j hji]
    · -- variables
      have hcurN : (∀ t b, c.eff ≠ .put t b) → ∀ t b0, curOf recs (lget (l.setIfInBounds i true)) t b0 = curOf recs (lget l) t b0 := fun hne t b0 => curOf_same (fun j x hp => by
        obtain ⟨cj, h1, h2⟩ := hputR t j x hp
        refine hgo j (fun hji => ?_)
        subst hji
        rw [hci] at h1
        obtain rfl := Option.some.inj h1
        exact hne t x h2)
      have split2 : (u, x) ∈ bxL s0 recs (lget (l.setIfInBounds i true)) → (∃ b0, (u, b0) ∈ s0.bx ∧ x = curOf recs (lget (l.setIfInBounds i true)) u b0) ∨ ∃ j cj b, recs.lookup j = some cj ∧ cj.eff = .new b ∧ cj.dst = some u ∧ lget (l.setIfInBounds i true) j = true ∧ x = curOf recs (lget (l.setIfInBounds i true)) u b := fun h => by
        unfold bxL at h
        rcases List.mem_append.1 h with h | h
        · obtain ⟨⟨t0, b0⟩, h1, h2⟩ := List.mem_map.1 h
          simp only [Prod.mk.injEq] at h2
          obtain ⟨rfl, rfl⟩ := h2
          exact .inl ⟨b0, h1, rfl⟩
        · obtain ⟨j, cj, b, h1, h2⟩ := newsL_get h
          exact .inr ⟨j, cj, b, hI.mem j cj h1, h2⟩
      have joinO : ∀ b0, (u, b0) ∈ s0.bx → (u, curOf recs (lget l) u b0) ∈ bxL s0 recs (lget l) := fun b0 h => List.mem_append_left _ (List.mem_map.2 ⟨(u, b0), h, rfl⟩)
      have joinN : ∀ j cj b, recs.lookup j = some cj → cj.eff = .new b → cj.dst = some u → lget l j = true → (u, curOf recs (lget l) u b) ∈ bxL s0 recs (lget l) := fun j cj b h1 h2 h3 h4 => List.mem_append_right _ (newsL_put (rec_mem h1) h2 h3 h4)
      cases hef : c.eff with
      | none =>
        have hcur := hcurN (fun t b h => by rw [hef] at h; cases h)
        rcases split2 hx with ⟨b0, h1, rfl⟩ | ⟨j, cj, b, h1, h2, h3, h4, rfl⟩
        · rw [hcur]; exact joinO b0 h1
        · have hji : j ≠ i := by rintro rfl; rw [hci] at h1; obtain rfl := Option.some.inj h1; rw [hef] at h2; cases h2
          rw [hcur]
          exact joinN j cj b h1 h2 h3 (by rw [← hgo j hji]; exact h4)
      | put t b =>
        by_cases hut : u = t
        · subst hut
          refine .inl ⟨rfl, ?_⟩
          have hcur : ∀ b0, curOf recs (lget (l.setIfInBounds i true)) u b0 = b := fun b0 => by
            obtain ⟨⟨j2, b2⟩, hp2⟩ := putOf_some (rec_mem hci) hef
            obtain ⟨c2, h3, h4⟩ := hputR u j2 b2 hp2
            have h5 := List.all_eq_true.1 hrecs _ (rec_mem hci)
            unfold chkRec at h5
            simp only [hef] at h5
            rw [Bool.and_eq_true] at h5
            have h6 := List.all_eq_true.1 h5.2 _ (rec_mem h3)
            simp only [h4] at h6
            have h7 : j2 = i := by simpa using ((Bool.and_eq_true _ _).mp h6).2
            subst h7
            rw [hci] at h3
            obtain rfl := Option.some.inj h3
            rw [hef] at h4
            injection h4 with _ h4
            unfold curOf
            rw [hp2]
            simp only [hg, if_true]
            exact h4.symm
          rcases split2 hx with ⟨b0, h1, rfl⟩ | ⟨j, cj, b', h1, h2, h3, h4, rfl⟩ <;> exact hcur _
        · refine .inr ⟨hut, ?_⟩
          have hcur : ∀ b0, curOf recs (lget (l.setIfInBounds i true)) u b0 = curOf recs (lget l) u b0 := fun b0 => curOf_same (fun j x hp => by
            obtain ⟨cj, h1, h2⟩ := hputR u j x hp
            refine hgo j (fun hji => ?_)
            subst hji
            rw [hci] at h1
            obtain rfl := Option.some.inj h1
            rw [hef] at h2
            injection h2 with h2
            exact hut h2.symm)
          rcases split2 hx with ⟨b0, h1, rfl⟩ | ⟨j, cj, b', h1, h2, h3, h4, rfl⟩
          · rw [hcur]; exact joinO b0 h1
          · have hji : j ≠ i := by rintro rfl; rw [hci] at h1; obtain rfl := Option.some.inj h1; rw [hef] at h2; cases h2
            rw [hcur]
            exact joinN j cj b' h1 h2 h3 (by rw [← hgo j hji]; exact h4)
      | new b =>
        have hcur := hcurN (fun t b h => by rw [hef] at h; cases h)
        have h5 := List.all_eq_true.1 hrecs _ (rec_mem hci)
        unfold chkRec at h5
        rw [hef] at h5
        cases hdo : c.dst with
        | none => rw [hdo] at h5; cases h5
        | some t =>
          rw [hdo] at h5
          simp only [Bool.and_eq_true] at h5
          obtain ⟨⟨h51, _⟩, _⟩ := h5
          have hno : ∀ b, (t, b) ∉ s0.bx := hasBx_no (by simpa using h51)
          rw [← hcd, hdo]
          rcases split2 hx with ⟨b0, h1, rfl⟩ | ⟨j, cj, b', h1, h2, h3, h4, rfl⟩
          · refine .inr ⟨fun e => hno b0 (by obtain rfl := Option.some.inj e; exact h1), ?_⟩
            rw [hcur]; exact joinO b0 h1
          · by_cases hji : j = i
            · subst hji
              rw [hci] at h1
              obtain rfl := Option.some.inj h1
              rw [hef] at h2
              injection h2 with h2
              subst h2
              rw [hdo] at h3
              obtain rfl := Option.some.inj h3
              refine .inl ⟨rfl, ?_⟩
              rw [hcur]
              unfold curOf
              split
              · rename_i j2 b2 hp2
                obtain ⟨c2, h6, h7⟩ := hputR t j2 b2 hp2
                have h8 := List.all_eq_true.1 hrecs _ (rec_mem h6)
                unfold chkRec at h8
                simp only [h7] at h8
                rw [Bool.and_eq_true, Bool.or_eq_true] at h8
                have hb : bit (masks ops.toList) j2 j = true := by
                  rcases h8.1 with h9 | h9
                  · obtain ⟨b9, h9⟩ := Option.isSome_iff_exists.1 h9
                    exact absurd (lookup_mem' h9) (hno b9)
                  · split at h9
                    · rename_i j3 b3 hn
                      obtain ⟨c3, g1, g2, g3⟩ := newOf_get hn
                      have g4 := hI.mem j3 c3 g1
                      obtain ⟨o3, g5, g6⟩ := opOf j3 c3 g4
                      have g7 := (hdst j3 o3 g5 t (by rw [← g6]; exact g3)).1
                      have g8 := (hdst j o ho t (by rw [← hcd]; exact hdo)).1
                      rw [g7] at g8
                      obtain rfl := Option.some.inj g8
                      exact h9
                    · cases h9
                obtain ⟨oj2, g1, _⟩ := opOf j2 c2 h6
                rw [behind j2 oj2 g1 hb]
                rfl
              · rfl
            · refine .inr ⟨fun e => hji ?_, ?_⟩
              · obtain rfl := Option.some.inj e
                obtain ⟨oj, g1, g2⟩ := opOf j cj h1
                have g3 := (hdst j oj g1 t (by rw [← g2]; exact h3)).1
                have g4 := (hdst i o ho t (by rw [← hcd]; exact hdo)).1
                rw [g3] at g4
                exact Option.some.inj g4
              · rw [hcur]
                exact joinN j cj b' h1 h2 h3 (by rw [← hgo j hji]; exact h4)
      | app o r => exact absurd hef (hne.1 o r)
      | set t r => exact absurd hef (hne.2 t r)
end
section
variable {Γ : Ctx} {ops : Array Oper} {s0 : St} {recs : Recs} {S0 : Sc} {w0 : World} {ν : Nat → Value} {Q : Exit → Act → World → Prop} {r : Out}
theorem mixed : Try.prog.follows .mixedOrders = true := by kernel_rfl
theorem touch_apart (hI : Inv Γ ops ops.toList s0 recs) (hc : chk ops.toList (masks ops.toList) s0 recs = true) {i : Nat} {ci : Rec} (hi : recs.lookup i = some ci) : ∀ j c t b, recs.lookup j = some c → c.eff = .put t b → ci.touch = some t → apart (masks ops.toList) j i = true := by
  intro j c t b h1 h2 h3
  unfold chk at hc
  rw [Bool.and_eq_true] at hc
  have h5 := List.all_eq_true.1 hc.2 _ (rec_mem h1)
  unfold chkRec at h5
  simp only [h2] at h5
  rw [Bool.and_eq_true] at h5
  have h6 := List.all_eq_true.1 h5.2 _ (rec_mem hi)
  simp only [h3] at h6
  simpa using ((Bool.and_eq_true _ _).mp h6).1
/-- A step at an operation that was done on the way. -/
theorem keep_op (hΓ : Ok Γ) (hI : Inv Γ ops ops.toList s0 recs) (hc : chk ops.toList (masks ops.toList) s0 recs = true) {l : Array Bool} {a : Act} {w : World} (hK : Keep ops s0 recs S0 w0 ν l a w) {i : Nat} {o : Oper} (ho : ops.toList[i]? = some o) (hli : lget l i = false) (he : ∀ e ∈ edges o, lget l e = true) {c : Rec} (hci : recs.lookup i = some c) :
    if Region.wanted o (yielded ops a.tmps) = true then o.wp Try.prog a w (Keep ops s0 recs S0 w0 ν (l.setIfInBounds i true)) Q else Keep ops s0 recs S0 w0 ν (l.setIfInBounds i true) (a.put o.dst undef) w := by
  obtain ⟨ρ, hr⟩ := hK.rep
  obtain ⟨o', ho', hcd, rp, hrp, hre, hrc, hrm, hf⟩ := hI.fact i c hci
  rw [ho] at ho'
  obtain rfl := Option.some.inj ho'
  obtain ⟨env, bxin⟩ := keep_env hI hc hK hr ho hli he hrp hre hrc hrm c.touch (touch_apart hI hc hci)
  rcases hf with ⟨hg, _, hp⟩ | ⟨hg, hd, hef⟩
  · rw [if_pos (guard_ok env.tm hg)]
    classical
    have hden := hp (fun d eff => if d = c.d ∧ eff = c.eff then some .dies else none) none
    simp only [and_self, if_true] at hden
    refine op_ok hΓ env hden (fun d eff v w' hk hs => ?_) (fun h => by cases h)
    split at hk
    · rename_i h
      obtain ⟨rfl, rfl⟩ := h
      exact keep_step hI hc hK hr ho hli he hci hcd bxin hs
    · cases hk
  · rw [if_neg (by rw [guard_ok env.tm hg]; decide)]
    refine keep_step hI hc hK hr ho hli he hci hcd bxin (v := undef) (w' := w) ?_
    rw [hef, hd]
    exact ⟨Below.refl _ _, #[], rfl, trivial⟩
theorem RepF.mv0 {ρ : Nat → Nat} {tm : Nat → D} {bx : List (Nat × BoxC)} {ow : List (Nat × Row)} {a : Act} {w : World} (h : RepF S0 w0 ρ ν ow tm bx a w) {w' : World} (hw : w'.heap = w.heap) (hb : Below w0.heap.size w0 w') : RepF S0 w0 ρ ν ow tm bx a w' := by
  have mv : Mv (Sof S0 ρ ν bx ow) (Sof S0 ρ ν bx ow) w w' := ⟨by rw [hw]; exact Nat.le_refl _, fun b _ _ => by rw [hw], fun _ _ h => h, fun _ _ => rfl⟩
  refine ⟨hb, h.base, h.defers, fun i => (h.tm i).mv mv (fun _ _ _ => rfl), fun t b ht => ?_, fun t r ht => ?_, h.inj, h.keys, h.injO, h.injB, h.keysO⟩
  · obtain ⟨h1, arr, h2, h3⟩ := h.bx t b ht
    exact ⟨h1, arr, by rw [hw]; exact h2, h3.mv mv⟩
  · obtain ⟨g1, g2⟩ := h.own t r ht
    exact ⟨g1.mv mv (fun _ _ => by rw [hw]), fun b hb' => ⟨(g2 b hb').1, by rw [hw]; exact (g2 b hb').2⟩⟩
theorem bxL_none (hf : ∀ j, (fun _ => false : Nat → Bool) j = false) : bxL s0 recs (fun _ => false) = s0.bx := by
  have h1 : ∀ r : Recs, newsL recs (fun _ => false) r = [] := by
    intro r
    induction r with
    | nil => rfl
    | cons x r ih =>
      obtain ⟨j, c⟩ := x
      unfold newsL
      split <;> simp [ih]
  have h2 : ∀ t b, curOf recs (fun _ => false) t b = b := fun t b => by unfold curOf; split <;> rfl
  unfold bxL
  rw [h1, List.append_nil]
  have : (fun p : Nat × BoxC => (p.1, curOf recs (fun _ => false) p.1 p.2)) = id := by funext p; simp [h2]
  rw [this, List.map_id]
theorem bxL_congr {l l' : Nat → Bool} (h : ∀ j c, (j, c) ∈ recs → l j = l' j) : bxL s0 recs l = bxL s0 recs l' := by
  have hcur : ∀ t b, curOf recs l t b = curOf recs l' t b := fun t b => curOf_same (fun j x hp => by
    obtain ⟨c, h1, _⟩ := putOf_get hp
    exact h j c h1)
  have h1 : ∀ r : Recs, (∀ j c, (j, c) ∈ r → l j = l' j) → newsL recs l r = newsL recs l' r := by
    intro r
    induction r with
    | nil => intro _; rfl
    | cons x r ih =>
      obtain ⟨j, c⟩ := x
      intro hr
      have ih := ih (fun j c hm => hr j c (List.mem_cons_of_mem _ hm))
      have hj := hr j c List.mem_cons_self
      unfold newsL
      split
      · rename_i b t he hd
        rw [hj, hcur, ih]
      · exact ih
  unfold bxL
  rw [h1 recs h]
  congr 1
  exact List.map_congr_left (fun p _ => by rw [hcur])
/-- Where all that was looked at is done. -/
theorem Keep.fin {s : St} (hI : Inv Γ ops ops.toList s recs) {l : Array Bool} {a : Act} {w : World} (hK : Keep ops s recs S0 w0 ν l a w) (inRecs : ∀ j c, (j, c) ∈ recs → lget l j = true) : ∃ ρ, Rep S0 w0 ρ ν (finSt ops.toList s recs) a w := by
  obtain ⟨ρ, hrf⟩ := hK.rep
  have hb : bxL s recs (lget l) = bxL s recs fun _ => true := bxL_congr (fun j c hm => inRecs j c hm)
  have hrf' : RepF S0 w0 ρ ν s.ow (tmL ops.toList s recs (lget l)) (bxL s recs fun _ => true) a w := hb ▸ hrf
  refine ⟨ρ, hrf'.below, hrf'.base, hrf'.defers, by simp [finSt, hK.tsz], fun slot => ?_, hrf'.bx, hrf'.own, hrf'.inj, hrf'.keys, hrf'.injO, hrf'.injB, hrf'.keysO⟩
  have hv := hrf'.tm slot
  show RepD (Sof S0 ρ ν (bxL s recs fun _ => true) s.ow) w ρ _ _
  unfold St.tmF finSt
  simp only
  rw [List.getD_eq_getElem?_getD, List.getElem?_map]
  by_cases hs : slot < s.tm.length
  · rw [List.getElem?_range hs]
    show RepD _ _ _ _ (tmL ops.toList s recs (fun _ => true) slot)
    unfold tmL at hv ⊢
    cases hds : dstOf slot ops.toList 0 with
    | none => rw [hds] at hv; exact hv
    | some j =>
      rw [hds] at hv
      simp only at hv ⊢
      rw [if_pos trivial]
      cases hl : recs.lookup j with
      | none => trivial
      | some c =>
        rw [inRecs j c (rec_mem hl), if_pos rfl, hl] at hv
        exact hv
  · rw [List.getElem?_eq_none (by simp; omega)]; trivial
theorem keep_start {s : St} {ρ : Nat → Nat} {a : Act} {w : World} (hr : Rep S0 w0 ρ ν s a w) : Keep ops s recs S0 w0 ν (Array.replicate ops.size false) a { w with drawn := w.drawn + 1 } := by
  have hfalse : lget (Array.replicate ops.size false) = fun _ => false := by
    funext j
    unfold lget
    rw [Array.getD_eq_getD_getElem?, Array.getElem?_replicate]
    split <;> rfl
  refine ⟨by simp, fun i o _ hl => (by rw [hfalse] at hl; cases hl), fun j hl => (by rw [hfalse] at hl; cases hl), hr.size.symm, ρ, ?_⟩
  rw [hfalse, bxL_none (fun _ => rfl)]
  have htm : tmL ops.toList s recs (fun _ => false) = s.tmF := by
    funext slot
    unfold tmL
    split <;> rfl
  rw [htm]
  exact hr.f.mv0 rfl ⟨hr.below.os, hr.below.tape, hr.below.output, hr.below.size, hr.below.block⟩
theorem die_step (hΓ : Ok Γ) {s : St} (hI : Inv Γ ops ops.toList s recs) (hc : chk ops.toList (masks ops.toList) s recs = true) (hD : Dead w0 r Q) (hrd : r = .dies) {l : Array Bool} {a : Act} {w : World} (hK : Keep ops s recs S0 w0 ν l a w) {i : Nat} {o : Oper} (ho : ops.toList[i]? = some o) (hli : lget l i = false) (he : ∀ e ∈ edges o, lget l e = true) (hdie : DieAt Γ ops ops.toList s recs i o) (K : Act → World → Prop) :
    if Region.wanted o (yielded ops a.tmps) = true then o.wp Try.prog a w K Q ∨ (o.asks Try.prog a w ∧ LetsOut Q) else K (a.put o.dst undef) w := by
  obtain ⟨ρ, hrf⟩ := hK.rep
  have hop := hdie.op (fun _ _ => none) (some .dies)
  have htch : ∀ j c t b, recs.lookup j = some c → c.eff = .put t b → touchOf (tmV ops.toList (masks ops.toList) s recs i) o.op = some t → apart (masks ops.toList) j i = true := by
    intro j c t b h1 h2 h3
    exfalso
    -- an operation that touches a variable does not die
    have hop2 := hdie.op (fun _ _ => none) (some .dies)
    revert h3 hop2
    generalize tmV ops.toList (masks ops.toList) s recs i = tm
    generalize bvV (masks ops.toList) s recs i (touchOf tm o.op) = bv
    intro h3 hop2
    cases hopc : o.op <;> rw [hopc] at h3 hop2 <;> try (cases h3; done)
    · simp only [denOp] at hop2
      repeat' split at hop2
      all_goals first | (cases hop2; done) | (rw [splitD_path] at hop2; cases hop2)
    · simp only [denOp] at hop2
      repeat' split at hop2
      all_goals (cases hop2)
  obtain ⟨env, bxin⟩ := keep_env hI hc hK hrf ho hli he (fun j c h => h) hdie.edges hI.cl hI.mem (touchOf (tmV ops.toList (masks ops.toList) s recs i) o.op) htch
  rw [if_pos (guard_ok env.tm hdie.guard)]
  refine .inl (op_ok hΓ env hop (fun d eff v w' hk' => by cases hk') (fun _ u pv w' hb => ?_))
  exact hD hrd u pv a w' hrf.defers (hrf.below.trans (hb.mono hrf.below.size))
theorem drawAll_ok (hΓ : Ok Γ) (ops : Array Oper) (id : Nat) (Q : Exit → Act → World → Prop) (k : St → Res) (hk : NOk S0 w0 r k (fun a w => Q .normal a w)) (hD : Dead w0 r Q) : ∀ s ρ ν a w, drawAll Γ ops s k = some r → Rep S0 w0 ρ ν s a w → (Code.region id ops true).wp Try.prog Q a w := by
  intro s ρ ν a w h hr
  unfold drawAll at h
  rw [withSt_is] at h
  obtain ⟨recs, hI, hend⟩ := denDr_path hΓ (Γ := Γ) (ops := ops) (L := ops.toList) (s0 := s) _ [] ⟨fun i c h => (by cases h), fun j oj _ hd => (by cases hd), fun j c h => (by cases h)⟩ h
  -- what both ends share
  have hc : chk ops.toList (masks ops.toList) s recs = true := by
    rcases hend with h | ⟨_, i, o, hd⟩
    · split at h
      · rename_i hc; exact ((Bool.and_eq_true _ _).mp hc).1
      · cases h
    · have := hd.chk
      unfold chkDie at this
      exact ((Bool.and_eq_true _ _).mp this).1
  have hops : chkOps ops.toList s ops.toList 0 = true := by unfold chk at hc; exact ((Bool.and_eq_true _ _).mp hc).1
  have start := keep_start (ops := ops) (recs := recs) hr
  refine wp_region_any mixed (wpAny_inv (P := Try.prog) (Q := Q) (md := .any) (ops := ops) (Keep ops s recs S0 w0 ν) (fun l a w h => h.size) ?_ ?_ ops.size _ a _ start ?_)
  · intro l a w i hK hi
    obtain ⟨o, ho, hli, he⟩ := ready_get hi
    have ho' : ops[i]? = some o := by simpa using ho
    unfold wpOp
    rw [ho']
    show if Region.wanted o (yielded ops a.tmps) = true then _ else _
    cases hd : doneR recs i with
    | true =>
      unfold doneR at hd
      obtain ⟨c, hci⟩ := Option.isSome_iff_exists.1 hd
      have := keep_op (Q := Q) hΓ hI hc hK ho hli he hci
      split
      · rename_i hw; rw [if_pos hw] at this; exact .inl this
      · rename_i hw; rw [if_neg hw] at this; exact this
    | false =>
      rcases hend with h | ⟨hrd, i0, o0, hdie⟩
      · split at h
        · rename_i hall
          have h2 := List.all_eq_true.1 ((Bool.and_eq_true _ _).mp hall).2 i (List.mem_range.2 (List.getElem?_eq_some_iff.1 ho).1)
          rw [hd] at h2; cases h2
        · cases h
      · have hi0 : i = i0 := by
          have h1 := hdie.chk
          unfold chkDie at h1
          have h2 := List.all_eq_true.1 ((Bool.and_eq_true _ _).mp h1).2 i (List.mem_range.2 (List.getElem?_eq_some_iff.1 ho).1)
          rw [hd] at h2
          simp only [Bool.false_or, Bool.or_eq_true] at h2
          rcases h2 with h2 | h2
          · exact beq_iff_eq.1 h2
          · have h3 := hK.proc i0 (mask_done hK.cl i o ho he i0 h2)
            rw [hdie.new] at h3; cases h3
        subst hi0
        have hoo := hdie.at_
        rw [ho] at hoo
        obtain rfl := Option.some.inj hoo
        exact die_step hΓ hI hc hD hrd hK ho hli he hdie _
  · intro l a w hK hrn
    have hall := ready_nil (s0 := s) hK.size hops hrn
    have inRecs : ∀ j c, (j, c) ∈ recs → lget l j = true := fun j c hm => by
      obtain ⟨oj, h1, _⟩ := hI.fact j c (hI.mem j c hm)
      exact hall j (by simpa using (List.getElem?_eq_some_iff.1 h1).1)
    rcases hend with h | ⟨_, i0, o0, hdie⟩
    · split at h
      · obtain ⟨ρ, hrep⟩ := hK.fin hI inRecs
        exact hk _ ρ ν a w h hrep
      · cases h
    · exfalso
      have h1 := hK.proc i0 (hall i0 (by simpa using (List.getElem?_eq_some_iff.1 hdie.at_).1))
      rw [hdie.new] at h1; cases h1
  · exact Nat.le_trans (List.length_filter_le _ _) (by simp)
theorem sink_all {L : List Oper} (h : sinkOk L = true) : ∀ j, j < L.length - 1 → bit (masks L) (L.length - 1) j = true := fun j hj => List.all_eq_true.1 ((Bool.and_eq_true _ _).mp h).2 j (List.mem_range.2 hj)
theorem drawSink_ok (hΓ : Ok Γ) (ops : Array Oper) (id : Nat) (Q : Exit → Act → World → Prop) (k : St → Res) (hk : NOk S0 w0 r k (fun a w => Q .normal a w)) (hD : Dead w0 r Q) (hsink : sinkOk ops.toList = true) (hz : 0 < ops.size) : ∀ s ρ ν a w, drawSink Γ ops s k = some r → Rep S0 w0 ρ ν s a w → (Code.region id ops true).wp Try.prog Q a w := by
  intro s ρ ν a w h hr
  unfold drawSink at h
  rw [withSt_is] at h
  have hlen : ops.toList.length = ops.size := by simp
  rw [hlen] at h
  have hall := sink_all hsink
  rw [hlen] at hall
  obtain ⟨recs, hI, hend⟩ := denDr_path hΓ (Γ := Γ) (ops := ops) (L := ops.toList) (s0 := s) _ [] ⟨fun i c h => (by cases h), fun j oj _ hd => (by cases hd), fun j c h => (by cases h)⟩ h
  obtain ⟨hc, hend⟩ : chk ops.toList (masks ops.toList) s recs = true ∧ (((List.range (ops.size - 1)).all (doneR recs) = true ∧ doneR recs (ops.size - 1) = false ∧ denOps Γ ops (ops.toList.drop (ops.size - 1)) (finSt ops.toList s recs) k = some r) ∨ r = .dies ∧ ∃ i o, DieAt Γ ops ops.toList s recs i o) := by
    rcases hend with h | ⟨hrd, i, o, hd⟩
    · split at h
      · rename_i hq
        rw [Bool.and_eq_true, Bool.and_eq_true] at hq
        exact ⟨hq.1.1, .inl ⟨hq.1.2, by simpa using hq.2, h⟩⟩
      · cases h
    · have := hd.chk
      unfold chkDie at this
      exact ⟨((Bool.and_eq_true _ _).mp this).1, .inr ⟨hrd, i, o, hd⟩⟩
  have hops : chkOps ops.toList s ops.toList 0 = true := by unfold chk at hc; exact ((Bool.and_eq_true _ _).mp hc).1
  have start := keep_start (ops := ops) (recs := recs) hr
  have hzl : lget (Array.replicate ops.size false) (ops.size - 1) = false := by
    unfold lget
    rw [Array.getD_eq_getD_getElem?, Array.getElem?_replicate]
    split <;> rfl
  refine wp_region_any mixed (wpAny_inv (P := Try.prog) (Q := Q) (md := .any) (ops := ops) (fun l a w => (lget l (ops.size - 1) = false ∧ Keep ops s recs S0 w0 ν l a w) ∨ (l.size = ops.size ∧ (∀ i, i < ops.size → lget l i = true) ∧ Q .normal a w)) (fun l a w h => by rcases h with ⟨_, h⟩ | ⟨h, _⟩; exact h.size; exact h) ?_ ?_ ops.size _ a _ (.inl ⟨hzl, start⟩) ?_)
  · intro l a w i hIl hi
    obtain ⟨o, ho, hli, he⟩ := ready_get hi
    have hilt : i < ops.size := by simpa using (List.getElem?_eq_some_iff.1 ho).1
    rcases hIl with ⟨hlz, hK⟩ | ⟨_, hdone, _⟩
    rotate_left
    · rw [hdone i hilt] at hli; cases hli
    have ho' : ops[i]? = some o := by simpa using ho
    by_cases hiz : i = ops.size - 1
    · -- the last one
      rcases hend with ⟨h1, h2, h3⟩ | ⟨hrd, i0, o0, hdie⟩
      · have hbefore : ∀ j, j < ops.size - 1 → lget l j = true := fun j hj => mask_done hK.cl i o ho he j (by rw [hiz]; exact hall j hj)
        have inRecs : ∀ j c, (j, c) ∈ recs → lget l j = true := fun j c hm => by
          obtain ⟨oj, g1, _⟩ := hI.fact j c (hI.mem j c hm)
          have hj : j < ops.size := by simpa using (List.getElem?_eq_some_iff.1 g1).1
          refine hbefore j ?_
          rcases Nat.lt_or_ge j (ops.size - 1) with h | h
          · exact h
          · have : j = ops.size - 1 := by omega
            subst this
            unfold doneR at h2
            rw [hI.mem _ c hm] at h2; cases h2
        obtain ⟨ρ', hrep⟩ := hK.fin hI inRecs
        have hl1 : (l.setIfInBounds i true).size = ops.size := by simpa using hK.size
        have hl2 : ∀ j, j < ops.size → lget (l.setIfInBounds i true) j = true := fun j hj => by
          rw [lget_set l i j (by rw [hK.size]; exact hilt)]
          split
          · rfl
          · exact hbefore j (by omega)
        have hdrop : ops.toList.drop (ops.size - 1) = [o] := by
          have := List.drop_eq_getElem_cons (l := ops.toList) (i := ops.size - 1) (by simp; omega)
          rw [this, List.drop_eq_nil_of_le (by simp; omega)]
          have e := List.getElem?_eq_some_iff.1 ho
          obtain ⟨_, e⟩ := e
          subst hiz
          rw [e]
        rw [hdrop] at h3
        have hw := denOps_ok hΓ ops k hk hD [o] _ ρ' ν a w h3 hrep
        unfold wpOp
        rw [ho']
        unfold wpList at hw
        show if Region.wanted o (yielded ops a.tmps) = true then _ else _
        split
        · rename_i hwd
          rw [if_pos hwd] at hw
          rcases hw with hw | hw
          · exact .inl (Oper.wp_mono (fun a' w' hq => .inr ⟨hl1, hl2, hq⟩) hw)
          · exact .inr hw
        · rename_i hwd
          rw [if_neg hwd] at hw
          exact .inr ⟨hl1, hl2, hw⟩
      · unfold wpOp
        rw [ho']
        show if Region.wanted o (yielded ops a.tmps) = true then _ else _
        have hi0 : i = i0 := by
          have hi0lt : i0 < ops.size := by simpa using (List.getElem?_eq_some_iff.1 hdie.at_).1
          rcases Nat.lt_or_ge i0 (ops.size - 1) with h | h
          · have h3 := hK.proc i0 (mask_done hK.cl i o ho he i0 (by rw [hiz]; exact hall i0 h))
            rw [hdie.new] at h3; cases h3
          · omega
        subst hi0
        have hoo := hdie.at_
        rw [ho] at hoo
        obtain rfl := Option.some.inj hoo
        exact die_step hΓ hI hc hD hrd hK ho hli he hdie _
    · unfold wpOp
      rw [ho']
      show if Region.wanted o (yielded ops a.tmps) = true then _ else _
      have hlz' : lget (l.setIfInBounds i true) (ops.size - 1) = false := by
        rw [lget_set l i _ (by rw [hK.size]; exact hilt), if_neg (fun e => hiz e.symm)]; exact hlz
      cases hd : doneR recs i with
      | true =>
        unfold doneR at hd
        obtain ⟨c, hci⟩ := Option.isSome_iff_exists.1 hd
        have := keep_op (Q := Q) hΓ hI hc hK ho hli he hci
        split
        · rename_i hw; rw [if_pos hw] at this; exact .inl (Oper.wp_mono (fun a' w' hq => .inl ⟨hlz', hq⟩) this)
        · rename_i hw; rw [if_neg hw] at this; exact .inl ⟨hlz', this⟩
      | false =>
        rcases hend with ⟨h1, h2, h3⟩ | ⟨hrd, i0, o0, hdie⟩
        · have h4 := List.all_eq_true.1 h1 i (List.mem_range.2 (by omega))
          rw [hd] at h4; cases h4
        · have hi0 : i = i0 := by
            have h1 := hdie.chk
            unfold chkDie at h1
            have h2 := List.all_eq_true.1 ((Bool.and_eq_true _ _).mp h1).2 i (List.mem_range.2 (List.getElem?_eq_some_iff.1 ho).1)
            rw [hd] at h2
            simp only [Bool.false_or, Bool.or_eq_true] at h2
            rcases h2 with h2 | h2
            · exact beq_iff_eq.1 h2
            · have h3 := hK.proc i0 (mask_done hK.cl i o ho he i0 h2)
              rw [hdie.new] at h3; cases h3
          subst hi0
          have hoo := hdie.at_
          rw [ho] at hoo
          obtain rfl := Option.some.inj hoo
          exact die_step hΓ hI hc hD hrd hK ho hli he hdie _
  · intro l a w hIl hrn
    rcases hIl with ⟨hlz, hK⟩ | ⟨_, _, hq⟩
    · rw [ready_nil (s0 := s) hK.size hops hrn (ops.size - 1) (by omega)] at hlz; cases hlz
    · exact hq
  · exact Nat.le_trans (List.length_filter_le _ _) (by simp)
theorem sufAt_ok {L : List Oper} {ms : List Nat} : ∀ {n p : Nat}, sufAt L ms n = some p → p < n ∧ sufOk L ms p = true
  | 0, p, h => by cases h
  | n + 1, p, h => by
    have h : (match sufAt L ms n with
      | some q => some q
      | none => match sufOk L ms n with
        | true => some n
        | false => none) = some p := h
    cases hs : sufAt L ms n with
    | some q =>
      rw [hs] at h
      obtain rfl : q = p := Option.some.inj h
      obtain ⟨h1, h2⟩ := sufAt_ok hs
      exact ⟨by omega, h2⟩
    | none =>
      rw [hs] at h
      cases hn : sufOk L ms n with
      | true =>
        rw [hn] at h
        obtain rfl : n = p := Option.some.inj h
        exact ⟨by omega, hn⟩
      | false => rw [hn] at h; cases h
theorem sufOk_bit {L : List Oper} {p : Nat} (h : sufOk L (masks L) p = true) (j i : Nat) (hp : p ≤ j) (hj : j < L.length) (hi : i < j) : bit (masks L) j i = true := by
  have h1 := List.all_eq_true.1 h (j - p) (List.mem_range.2 (by omega))
  rw [show p + (j - p) = j by omega] at h1
  exact List.all_eq_true.1 h1 i (List.mem_range.2 hi)
/-- A way that dies, in whatever order. -/
theorem drawDie_ok (hΓ : Ok Γ) (ops : Array Oper) (id : Nat) (Q : Exit → Act → World → Prop) (hD : Dead w0 r Q) (s : St) (ρ : Nat → Nat) (a : Act) (w : World) (hr : Rep S0 w0 ρ ν s a w) (hI : Inv Γ ops ops.toList s recs) (hc : chk ops.toList (masks ops.toList) s recs = true) (hrd : r = .dies) {i0 : Nat} {o0 : Oper} (hdie : DieAt Γ ops ops.toList s recs i0 o0) : (Code.region id ops true).wp Try.prog Q a w := by
  have hops : chkOps ops.toList s ops.toList 0 = true := by unfold chk at hc; exact ((Bool.and_eq_true _ _).mp hc).1
  have start := keep_start (ops := ops) (recs := recs) hr
  refine wp_region_any mixed (wpAny_inv (P := Try.prog) (Q := Q) (md := .any) (ops := ops) (Keep ops s recs S0 w0 ν) (fun l a w h => h.size) ?_ ?_ ops.size _ a _ start ?_)
  · intro l a w i hK hi
    obtain ⟨o, ho, hli, he⟩ := ready_get hi
    have ho' : ops[i]? = some o := by simpa using ho
    unfold wpOp
    rw [ho']
    show if Region.wanted o (yielded ops a.tmps) = true then _ else _
    cases hd : doneR recs i with
    | true =>
      unfold doneR at hd
      obtain ⟨c, hci⟩ := Option.isSome_iff_exists.1 hd
      have := keep_op (Q := Q) hΓ hI hc hK ho hli he hci
      split
      · rename_i hw; rw [if_pos hw] at this; exact .inl this
      · rename_i hw; rw [if_neg hw] at this; exact this
    | false =>
      have hi0 : i = i0 := by
        have h1 := hdie.chk
        unfold chkDie at h1
        have h2 := List.all_eq_true.1 ((Bool.and_eq_true _ _).mp h1).2 i (List.mem_range.2 (List.getElem?_eq_some_iff.1 ho).1)
        rw [hd] at h2
        simp only [Bool.false_or, Bool.or_eq_true] at h2
        rcases h2 with h2 | h2
        · exact beq_iff_eq.1 h2
        · have h3 := hK.proc i0 (mask_done hK.cl i o ho he i0 h2)
          rw [hdie.new] at h3; cases h3
      subst hi0
      have hoo := hdie.at_
      rw [ho] at hoo
      obtain rfl := Option.some.inj hoo
      exact die_step hΓ hI hc hD hrd hK ho hli he hdie _
  · intro l a w hK hrn
    exfalso
    have hall := ready_nil (s0 := s) hK.size hops hrn
    have h1 := hK.proc i0 (hall i0 (by simpa using (List.getElem?_eq_some_iff.1 hdie.at_).1))
    rw [hdie.new] at h1; cases h1
  · exact Nat.le_trans (List.length_filter_le _ _) (by simp)
theorem drawSuf_ok (hΓ : Ok Γ) (ops : Array Oper) (id : Nat) (p : Nat) (Q : Exit → Act → World → Prop) (k : St → Res) (hk : NOk S0 w0 r k (fun a w => Q .normal a w)) (hD : Dead w0 r Q) (hp : p < ops.size) (hsuf : sufOk ops.toList (masks ops.toList) p = true) : ∀ s ρ ν a w, drawSuf Γ ops p s k = some r → Rep S0 w0 ρ ν s a w → (Code.region id ops true).wp Try.prog Q a w := by
  intro s ρ ν a w h hr
  unfold drawSuf at h
  rw [withSt_is] at h
  have hlen : ops.toList.length = ops.size := by simp
  have hbit : ∀ j i, p ≤ j → j < ops.size → i < j → bit (masks ops.toList) j i = true := fun j i h1 h2 h3 => sufOk_bit hsuf j i h1 (by rw [hlen]; exact h2) h3
  rw [hlen] at h
  obtain ⟨recs, hI, hend⟩ := denDr_path hΓ (Γ := Γ) (ops := ops) (L := ops.toList) (s0 := s) _ [] ⟨fun i c h => (by cases h), fun j oj _ hd => (by cases hd), fun j c h => (by cases h)⟩ h
  rcases hend with h | ⟨hrd, i0, o0, hdie⟩
  rotate_left
  · have hd := hdie.chk
    unfold chkDie at hd
    exact drawDie_ok hΓ ops id Q hD s ρ a w hr hI ((Bool.and_eq_true _ _).mp hd).1 hrd hdie
  obtain ⟨hc, h1, h2, h3⟩ : chk ops.toList (masks ops.toList) s recs = true ∧ (List.range p).all (doneR recs) = true ∧ (∀ j, p ≤ j → j < ops.size → doneR recs j = false) ∧ denOps Γ ops (ops.toList.drop p) (finSt ops.toList s recs) k = some r := by
    split at h
    · rename_i hq
      rw [Bool.and_eq_true, Bool.and_eq_true] at hq
      refine ⟨hq.1.1, hq.1.2, fun j g1 g2 => ?_, h⟩
      have := List.all_eq_true.1 hq.2 (j - p) (List.mem_range.2 (by omega))
      rw [show p + (j - p) = j by omega] at this
      simpa using this
    · cases h
  have hops : chkOps ops.toList s ops.toList 0 = true := by unfold chk at hc; exact ((Bool.and_eq_true _ _).mp hc).1
  have start := keep_start (ops := ops) (recs := recs) hr
  have hzl : ∀ j, p ≤ j → j < ops.size → lget (Array.replicate ops.size false) j = false := fun j _ _ => by
    unfold lget
    rw [Array.getD_eq_getD_getElem?, Array.getElem?_replicate]
    split <;> rfl
  refine wp_region_any mixed (wpAny_inv (P := Try.prog) (Q := Q) (md := .any) (ops := ops) (fun l a w => ((∀ j, p ≤ j → j < ops.size → lget l j = false) ∧ Keep ops s recs S0 w0 ν l a w) ∨ ∃ q, p < q ∧ q ≤ ops.size ∧ l.size = ops.size ∧ (∀ i o, ops.toList[i]? = some o → lget l i = true → ∀ e ∈ edges o, lget l e = true) ∧ (∀ j, j < ops.size → lget l j = decide (j < q)) ∧ wpList Try.prog ops Q (ops.toList.drop q) a w) (fun l a w h => by rcases h with ⟨_, h⟩ | ⟨_, _, _, h, _⟩; exact h.size; exact h) ?_ ?_ ops.size _ a _ (.inl ⟨hzl, start⟩) ?_)
  · intro l a w i hIl hi
    obtain ⟨o, ho, hli, he⟩ := ready_get hi
    have hilt : i < ops.size := by simpa using (List.getElem?_eq_some_iff.1 ho).1
    have ho' : ops[i]? = some o := by simpa using ho
    have hdrop : ops.toList.drop i = o :: ops.toList.drop (i + 1) := by
      rw [List.drop_eq_getElem_cons (l := ops.toList) (i := i) (by simpa using hilt)]
      obtain ⟨_, e⟩ := List.getElem?_eq_some_iff.1 ho
      rw [e]
    have clset : (∀ i o, ops.toList[i]? = some o → lget l i = true → ∀ e ∈ edges o, lget l e = true) → l.size = ops.size → ∀ j oj, ops.toList[j]? = some oj → lget (l.setIfInBounds i true) j = true → ∀ e ∈ edges oj, lget (l.setIfInBounds i true) e = true := fun hcl hsz j oj hj hlj e hee => by
      rw [lget_set l i _ (by rw [hsz]; exact hilt)] at hlj ⊢
      split
      · rfl
      · by_cases hji : j = i
        · subst hji
          rw [ho] at hj
          obtain rfl := Option.some.inj hj
          exact he e hee
        · rw [if_neg hji] at hlj
          exact hcl j oj hj hlj e hee
    -- the next one of those in a row
    have next : ∀ q, q = i → (∀ j, j < ops.size → j ≠ i → lget l j = decide (j < q)) → l.size = ops.size → (∀ i o, ops.toList[i]? = some o → lget l i = true → ∀ e ∈ edges o, lget l e = true) → p ≤ q → wpList Try.prog ops Q (ops.toList.drop q) a w → wpOp Try.prog ops Q i (fun a' w' => ((∀ j, p ≤ j → j < ops.size → lget (l.setIfInBounds i true) j = false) ∧ Keep ops s recs S0 w0 ν (l.setIfInBounds i true) a' w') ∨ ∃ q, p < q ∧ q ≤ ops.size ∧ (l.setIfInBounds i true).size = ops.size ∧ (∀ i' o, ops.toList[i']? = some o → lget (l.setIfInBounds i true) i' = true → ∀ e ∈ edges o, lget (l.setIfInBounds i true) e = true) ∧ (∀ j, j < ops.size → lget (l.setIfInBounds i true) j = decide (j < q)) ∧ wpList Try.prog ops Q (ops.toList.drop q) a' w') a w := by
      intro q hq hl hsz hcl hpq hw
      subst hq
      rw [hdrop] at hw
      unfold wpList at hw
      have g1 : (l.setIfInBounds q true).size = ops.size := by simpa using hsz
      have g2 : ∀ j, j < ops.size → lget (l.setIfInBounds q true) j = decide (j < q + 1) := fun j hj => by
        rw [lget_set l q j (by rw [hsz]; exact hilt)]
        split
        · rename_i e; subst e; simp
        · rename_i e
          rw [hl j hj e]
          exact decide_eq_decide.mpr (by omega)
      have g3 := clset hcl hsz
      unfold wpOp
      rw [ho']
      show if Region.wanted o (yielded ops a.tmps) = true then _ else _
      split
      · rename_i hwd
        rw [if_pos hwd] at hw
        rcases hw with hw | hw
        · exact .inl (Oper.wp_mono (fun a' w' hq => .inr ⟨q + 1, by omega, by omega, g1, g3, g2, hq⟩) hw)
        · exact .inr hw
      · rename_i hwd
        rw [if_neg hwd] at hw
        exact .inr ⟨q + 1, by omega, by omega, g1, g3, g2, hw⟩
    rcases hIl with ⟨hlz, hK⟩ | ⟨q, q0, q1, hsz, hcl, hl, hw⟩
    · by_cases hip : i < p
      · have h4 := List.all_eq_true.1 h1 i (List.mem_range.2 hip)
        have hlz' : ∀ j, p ≤ j → j < ops.size → lget (l.setIfInBounds i true) j = false := fun j g1 g2 => by
          rw [lget_set l i _ (by rw [hK.size]; exact hilt), if_neg (by omega)]; exact hlz j g1 g2
        unfold doneR at h4
        obtain ⟨c, hci⟩ := Option.isSome_iff_exists.1 h4
        have := keep_op (Q := Q) hΓ hI hc hK ho hli he hci
        unfold wpOp
        rw [ho']
        show if Region.wanted o (yielded ops a.tmps) = true then _ else _
        split
        · rename_i hw; rw [if_pos hw] at this; exact .inl (Oper.wp_mono (fun a' w' hq => .inl ⟨hlz', hq⟩) this)
        · rename_i hw; rw [if_neg hw] at this; exact .inl ⟨hlz', this⟩
      · have hbefore : ∀ j, j < i → lget l j = true := fun j hj => mask_done hK.cl i o ho he j (hbit i j (by omega) hilt hj)
        have hpi : i = p := by
          rcases Nat.lt_or_ge p i with g | g
          · have := hbefore p g
            rw [hlz p (Nat.le_refl _) hp] at this; cases this
          · omega
        have inRecs : ∀ j c, (j, c) ∈ recs → lget l j = true := fun j c hm => by
          obtain ⟨oj, g1, _⟩ := hI.fact j c (hI.mem j c hm)
          have hj : j < ops.size := by simpa using (List.getElem?_eq_some_iff.1 g1).1
          refine hbefore j ?_
          rcases Nat.lt_or_ge j p with g | g
          · omega
          · have := h2 j g hj
            unfold doneR at this
            rw [hI.mem _ c hm] at this; cases this
        obtain ⟨ρ', hrep⟩ := hK.fin hI inRecs
        have hw := denOps_ok hΓ ops k hk hD _ _ ρ' ν a w h3 hrep
        refine next p hpi.symm (fun j hj hji => ?_) hK.size hK.cl (Nat.le_refl _) hw
        rcases Nat.lt_or_ge j p with g | g
        · rw [hbefore j (by omega)]; simp [g]
        · rw [hlz j g hj]; simp; omega
    · have hiq : i = q := by
        rcases Nat.lt_or_ge i q with g | g
        · rw [hl i hilt] at hli; simp at hli; omega
        · rcases Nat.lt_or_ge q i with g' | g'
          · have := mask_done hcl i o ho he q (hbit i q (by omega) hilt g')
            rw [hl q (by omega)] at this; simp at this
          · omega
      exact next q hiq.symm (fun j hj _ => hl j hj) hsz hcl (by omega) hw
  · intro l a w hIl hrn
    rcases hIl with ⟨hlz, hK⟩ | ⟨q, q0, q1, hsz, hcl, hl, hw⟩
    · have := ready_nil (s0 := s) hK.size hops hrn p hp
      rw [hlz p (Nat.le_refl _) hp] at this; cases this
    · have hq : q = ops.size := by
        rcases Nat.lt_or_ge q ops.size with g | g
        · have := ready_nil (s0 := s) hsz hops hrn q g
          rw [hl q g] at this; simp at this
        · omega
      rw [hq, List.drop_eq_nil_of_le (by simp)] at hw
      exact hw
  · exact Nat.le_trans (List.length_filter_le _ _) (by simp)
theorem denDraw_ok (hΓ : Ok Γ) (ops : Array Oper) (id : Nat) (Q : Exit → Act → World → Prop) (k : St → Res) (hk : NOk S0 w0 r k (fun a w => Q .normal a w)) (hD : Dead w0 r Q) : ∀ s ρ ν a w, denDraw Γ ops s k = some r → Rep S0 w0 ρ ν s a w → (Code.region id ops true).wp Try.prog Q a w := by
  intro s ρ ν a w h hr
  unfold denDraw at h
  split at h
  · rename_i p hp
    unfold sufOf at hp
    split at hp
    · obtain ⟨g1, g2⟩ := sufAt_ok hp
      exact drawSuf_ok hΓ ops id p Q k hk hD (by simpa using g1) g2 s ρ ν a w h hr
    · cases hp
  split at h
  · exact drawAll_ok hΓ ops id Q k hk hD s ρ ν a w h hr
  · split at h
    · rename_i hs
      rcases Nat.eq_zero_or_pos ops.size with hz | hz
      · -- no operation: nothing is looked at
        refine drawAll_ok hΓ ops id Q k hk hD s ρ ν a w ?_ hr
        have e : ops.toList = [] := by simpa using Array.eq_empty_of_size_eq_zero hz
        unfold drawSink at h
        unfold drawAll
        rw [withSt_is] at h ⊢
        rw [e] at h ⊢
        have h : (match (chk [] (masks []) s [] && true && true) with
          | true => k (finSt [] s [])
          | false => none) = some r := h
        show (if (chk [] (masks []) s [] && true) = true then k (finSt [] s []) else none) = some r
        cases hc : chk [] (masks []) s [] with
        | true => rw [hc] at h; exact h
        | false => rw [hc] at h; cases h
      · exact drawSink_ok hΓ ops id Q k hk hD hs hz s ρ ν a w h hr
    · exact drawAll_ok hΓ ops id Q k hk hD _ ρ ν a w h hr.frzAll
end
noncomputable def den (Γ : Ctx) (n : Nat) (c : Code) : St → (Ex → St → Res) → Res :=
  Code.rec (motive := fun _ => St → (Ex → St → Res) → Res)
    (fun s k => k .normal s)
    (fun _ ops draw s k => match draw with
      | true => denDraw Γ ops s (k .normal)
      | false => denOps Γ ops ops.toList s (k .normal))
    (fun _ _ ix iy s k => ix s fun e s' => match e with
      | .normal => iy s' k
      | .exit i => k (.exit i) s'
      | .ret => k .ret s')
    (fun c _ _ ix iy s k => match evD s.tmF c with
      | .one (.ce (.bool b)) => (match b with
        | true => ix s k
        | false => iy s k)
      | _ => none)
    (fun id _ ix s k => ix s fun e s' => match e with
      | .normal => k .normal s'
      | .exit i => if i = id then k .normal s' else k (.exit i) s'
      | .ret => k .ret s')
    (fun _ ix s k => loopN n ix s k)
    (fun _ _ _ _ _ _ _ _ => none)
    (fun id s k => k (.exit id) s)
    (fun _ _ _ _ => none) (fun _ _ _ => none) (fun _ _ _ => none)
    (fun s k => k .ret s)
    (fun _ _ _ => none) c
section
variable {S0 : Sc} {w0 : World} {Γ : Ctx} {r : Out}
def EOk (S0 : Sc) (w0 : World) (r : Out) (k : Ex → St → Res) (Q : Exit → Act → World → Prop) : Prop :=
  ∀ e s ρ ν a w, k e s = some r → Rep S0 w0 ρ ν s a w → Q e.cv a w
def COk (S0 : Sc) (w0 : World) (r : Out) (c : Code) (f : St → (Ex → St → Res) → Res) : Prop :=
  ∀ (Q : Exit → Act → World → Prop) (k : Ex → St → Res), EOk S0 w0 r k Q → Dead w0 r Q → ∀ s ρ ν a w, f s k = some r → Rep S0 w0 ρ ν s a w → c.wp Try.prog Q a w
theorem loopN_ok {c : Code} {f : St → (Ex → St → Res) → Res} (hc : COk S0 w0 r c f) (Q : Exit → Act → World → Prop) (k : Ex → St → Res) (hk : EOk S0 w0 r k Q) (hD : Dead w0 r Q) : ∀ m s ρ ν a w, loopN m f s k = some r → Rep S0 w0 ρ ν s a w → Code.rounds Try.prog c Q m a w
  | 0, s, ρ, ν, a, w, h, _ => by cases h
  | m + 1, s, ρ, ν, a, w, h, hr => by
    rw [rounds_succ]
    refine hc (Exit.then (Code.rounds Try.prog c Q m) Q) _ (fun e s' ρ' ν' a' w' h' hr' => ?_) (fun he u pv a' w' hd hb => hD he u pv a' w' hd hb) s ρ ν a w h hr
    cases e with
    | normal => exact loopN_ok hc Q k hk hD m s' ρ' ν' a' w' h' hr'
    | exit i => exact hk _ s' ρ' ν' a' w' h' hr'
    | ret => exact hk _ s' ρ' ν' a' w' h' hr'
theorem den_ok (hΓ : Ok Γ) (n : Nat) : ∀ c : Code, COk S0 w0 r c (den Γ n c) := by
  intro c
  induction c with
  | skip => intro Q k hk hD s ρ ν a w h hr; exact wp_skip (hk .normal s ρ ν a w h hr)
  | region id ops draw =>
    intro Q k hk hD s ρ ν a w h hr
    cases draw with
    | true => exact denDraw_ok hΓ ops id Q (k .normal) (fun s ρ ν a w h hr => hk .normal s ρ ν a w h hr) hD s ρ ν a w h hr
    | false => exact wp_region_list (denOps_ok hΓ ops (k .normal) (fun s ρ ν a w h hr => hk .normal s ρ ν a w h hr) hD _ s ρ ν a w h hr)
  | seq x y hx hy =>
    intro Q k hk hD s ρ ν a w h hr
    refine wp_seq (hx (Exit.then (y.wp Try.prog Q) Q) _ (fun e s' ρ' ν' a' w' h' hr' => ?_) (fun he u pv a' w' hd hb => hD he u pv a' w' hd hb) s ρ ν a w h hr)
    cases e with
    | normal => exact hy Q k hk hD s' ρ' ν' a' w' h' hr'
    | exit i => exact hk _ s' ρ' ν' a' w' h' hr'
    | ret => exact hk _ s' ρ' ν' a' w' h' hr'
  | cond c x y hx hy =>
    intro Q k hk hD s ρ ν a w h hr
    have h : (match evD s.tmF c with
      | .one (.ce (.bool b)) => (match b with
        | true => den Γ n x s k
        | false => den Γ n y s k)
      | _ => none) = some r := h
    split at h
    · rename_i b hb
      have hv := hr.env.bo_ hb
      refine wp_cond hv ?_
      cases b with
      | true => exact hx Q k hk hD s ρ ν a w h hr
      | false => exact hy Q k hk hD s ρ ν a w h hr
    · cases h
  | block id x hx =>
    intro Q k hk hD s ρ ν a w h hr
    refine wp_block (hx (Exit.inBlock id Q) _ (fun e s' ρ' ν' a' w' h' hr' => ?_) (fun he u pv a' w' hd hb => hD he u pv a' w' hd hb) s ρ ν a w h hr)
    cases e with
    | normal => exact hk .normal s' ρ' ν' a' w' h' hr'
    | exit i =>
      show (if i = id then Q .normal a' w' else Q (.exit i) a' w')
      have h' : (if i = id then k .normal s' else k (.exit i) s') = some r := h'
      by_cases hi : i = id
      · rw [if_pos hi] at h' ⊢; exact hk .normal s' ρ' ν' a' w' h' hr'
      · rw [if_neg hi] at h' ⊢; exact hk (.exit i) s' ρ' ν' a' w' h' hr'
    | ret => exact hk _ s' ρ' ν' a' w' h' hr'
  | loop x hx =>
    intro Q k hk hD s ρ ν a w h hr
    exact wp_loop_rounds n (loopN_ok hx Q k hk hD n s ρ ν a w h hr)
  | exit id => intro Q k hk hD s ρ ν a w h hr; exact wp_exit (hk (.exit id) s ρ ν a w h hr)
  | ret => intro Q k hk hD s ρ ν a w h hr; exact wp_ret (hk .ret s ρ ν a w h hr)
  | rangeFunc _ _ _ _ => intro Q k hk hD s ρ ν a w h hr; cases h
  | scope _ => intro Q k hk hD s ρ ν a w h hr; cases h
  | label _ => intro Q k hk hD s ρ ν a w h hr; cases h
  | goto _ => intro Q k hk hD s ρ ν a w h hr; cases h
  | refuse _ => intro Q k hk hD s ρ ν a w h hr; cases h
end
/-! ### A call -/
noncomputable def resD (s : St) : List ResultVar → Option (List D1)
  | [] => some []
  | .tmp t :: l => match s.tmF t with
    | .one d => (resD s l).map (d :: ·)
    | _ => none
  | .cell x t :: l => match s.tmF x with
    | .box b off => match s.bvF b, tyZ t with
      | some bc, some z => if off + z.length ≤ bc.cs.length then match part t bc.cs off with
          | some (.one d) => (resD s l).map (d :: ·)
          | _ => none
        else none
      | _, _ => none
    | _ => none
def packD : List D1 → D
  | [d] => .one d
  | l => .tup l
noncomputable def Ce.free : Ce → Bool
  | .own _ => false
  | _ => true
noncomputable def D1.free : D1 → Bool
  | .ce c => c.free
  | .agg cs => cs.all Ce.free
/-- What leaves the call: rows that are only read. -/
noncomputable def Ce.nrm : Ce → Ce
  | .ints _ l => .ints false l
  | .vals _ l => .vals false l
  | c => c
noncomputable def D1.nrm : D1 → D1
  | .ce c => .ce c.nrm
  | .agg cs => .agg (cs.map Ce.nrm)
noncomputable def init (fn : Func) (ds : List D1) : St := ⟨ds.map D.one ++ List.replicate (fn.ntmps - ds.length) .any, [], []⟩
noncomputable def run (Γ : Ctx) (n : Nat) (fn : Func) (ds : List D1) : Res := match fn.body with
  | some c => den Γ n c (init fn ds) fun e s => match e with
    | .exit _ => none
    | _ => ((resD (frzAll s) fn.results.toList).bind fun l => if l.all D1.free = true then some (l.map D1.nrm) else none).map fun l => .ret (packD l)
  | none => none
noncomputable def resF (tmps : Array Value) : ResultVar → Sem Value
  | .tmp t => pure (tmps.getD t undef)
  | .cell x t => do loadVar t (← asAddr (tmps.getD x undef))
theorem results_is (fn : Func) (tmps : Array Value) : results fn tmps = (do
    let vs ← fn.results.mapM (resF tmps)
    pure (if h : vs.size = 1 then vs[0] else .tuple vs)) := rfl
theorem res_ok {S0 : Sc} {w0 : World} {ρ : Nat → Nat} {ν : Nat → Value} {s : St} {a : Act} {w : World} (h : Rep S0 w0 ρ ν s a w) : ∀ (l : List ResultVar) (ds : List D1), resD s l = some ds →
    ∃ vs, (l.mapM (resF a.tmps)).run Try.prog w = .ok vs w ∧ All2 (Rep1 (Sof S0 ρ ν s.bx s.ow) w) vs ds
  | [], ds, e => by
    have e := Option.some.inj e; subst e
    exact ⟨[], rfl, trivial⟩
  | .tmp t :: l, ds, e => by
    unfold resD at e
    split at e
    · rename_i d hd
      obtain ⟨m, hm, rfl⟩ := Option.map_eq_some_iff.1 e
      obtain ⟨vs, h1, h2⟩ := res_ok h l m hm
      have hv := h.tm t
      rw [hd] at hv
      refine ⟨_ :: vs, ?_, hv, h2⟩
      rw [List.mapM_cons]
      simp only [resF, Sem.run_bind, Sem.run_pure, Result.andThen_ok, h1]
    · cases e
  | .cell x t :: l, ds, e => by
    unfold resD at e
    split at e
    · rename_i b off hb
      split at e
      · rename_i bc z hbc hz
        split at e
        · rename_i hl
          split at e
          · rename_i d hp
            obtain ⟨m, hm, rfl⟩ := Option.map_eq_some_iff.1 e
            obtain ⟨vs, h1, h2⟩ := res_ok h l m hm
            have hv := h.tm x
            rw [hb] at hv
            obtain ⟨v, g1, g2⟩ := load_box h.env hbc hz hl hp
            refine ⟨v :: vs, ?_, g2, h2⟩
            have hv : a.tmps.getD x undef = .pointer (some ⟨ρ b, off, none⟩) := hv
            have ha : (asAddr (a.tmps.getD x undef)).run Try.prog w = .ok ⟨ρ b, off, none⟩ w := by rw [hv]; rfl
            rw [List.mapM_cons]
            simp only [resF, Sem.run_bind, Sem.run_pure, Result.andThen_ok, ha, g1, h1]
          · cases e
        · cases e
      · cases e
    · cases e
theorem init_tm {S : Sc} {w : World} {ρ : Nat → Nat} : ∀ (args : List Value) (ds : List D1) (m : Nat) (i : Nat), All2 (Rep1 S w) args ds → RepD S w ρ ((args ++ List.replicate m undef).getD i undef) ((ds.map D.one ++ List.replicate m D.any).getD i D.any)
  | [], [], m, i, _ => by
    simp only [List.nil_append, List.map_nil, List.getD_eq_getElem?_getD, List.getElem?_replicate]
    split <;> trivial
  | a :: args, d :: ds, m, 0, h => h.1
  | a :: args, d :: ds, m, i + 1, h => by simpa using init_tm args ds m i h.2
  | [], _ :: _, _, _, h => h.elim
  | _ :: _, [], _, _, h => h.elim
theorem RepC.off {S S' : Sc} {w : World} (hs : ∀ b, S'.bad b → S.bad b) {v : Value} {c : Ce} (hf : c.free = true) (h : RepC S w v c) : RepC S' w v c :=
  h.mvp (q := fun _ => True) ⟨Nat.le_refl _, fun _ _ _ => rfl, fun b _ hb => hs b hb, fun t ht => absurd trivial ht⟩ (by cases c <;> first | trivial | cases hf)
theorem Rep1.off {S S' : Sc} {w : World} (hs : ∀ b, S'.bad b → S.bad b) {v : Value} {d : D1} (hf : d.free = true) (h : Rep1 S w v d) : Rep1 S' w v d := by
  cases d with
  | ce c => exact RepC.off hs hf h
  | agg cs =>
    obtain ⟨arr, e, h⟩ := h
    exact ⟨arr, e, h.impm (fun _ c hc => RepC.off hs (List.all_eq_true.1 hf c hc))⟩
theorem RepC.nrm {S : Sc} {w : World} {v : Value} {c : Ce} (h : RepC S w v c) : RepC S w v c.nrm := by
  cases c <;> first | exact ⟨h.1, nofalse⟩ | exact h
theorem Rep1.nrm {S : Sc} {w : World} {v : Value} {d : D1} (h : Rep1 S w v d) : Rep1 S w v d.nrm := by
  cases d with
  | ce c => exact RepC.nrm h
  | agg cs => obtain ⟨arr, e, h⟩ := h; exact ⟨arr, e, all2_mapr _ (fun _ _ => RepC.nrm) h⟩
theorem calls_of_run {Γ : Ctx} (hΓ : Ok Γ) {f : Nat} {fn : Func} (hf : Try.prog.funcs[f]? = some fn) (hb : fn.body.isSome = true) {n : Nat} {ds : List D1} {out : Out} (hrun : run Γ n fn ds = some out) (S : Sc) (w : World) (args : Array Value) (hS : ∀ b, S.bad b → b < w.heap.size) (ha : All2 (Rep1 S w) args.toList ds) : Calls Try.prog f args w (Post S w out) := by
  obtain ⟨c, hc⟩ := Option.isSome_iff_exists.1 hb
  unfold run at hrun
  rw [hc] at hrun
  have hlen := ha.len
  simp only [Array.length_toList] at hlen
  refine calls_of_wp hf hc (den_ok hΓ n c (S0 := S) (w0 := w) (r := out) _ _ ?_ ?_ (init fn ds) id S.val _ w hrun ?_)
  · intro e s ρ ν a w' hk hr
    have hr := hr.frzAll
    have fin : ((resD (frzAll s) fn.results.toList).bind fun l => if l.all D1.free = true then some (l.map D1.nrm) else none).map (fun l => Out.ret (packD l)) = some out → a.defers = [] ∧ ∃ v, (results fn a.tmps).run Try.prog w' = .ok v w' ∧ Post S w out (.returned v) w' := by
      intro hk
      obtain ⟨l, hl, hout⟩ := Option.map_eq_some_iff.1 hk
      obtain ⟨l', hl', hfr⟩ := Option.bind_eq_some_iff.1 hl
      split at hfr
      case isFalse => cases hfr
      case isTrue hall =>
      have hfr := Option.some.inj hfr
      subst hout
      obtain ⟨vs, h1, h2⟩ := res_ok hr _ l' hl'
      have h2 : All2 (Rep1 S w') vs l := hfr ▸ all2_mapr _ (fun _ _ => Rep1.nrm) (show All2 (Rep1 S w') vs l' from h2.impm (fun _ d hd => Rep1.off (S := Sof S ρ ν (frzAll s).bx (frzAll s).ow) (fun b hb => Or.inl hb) (List.all_eq_true.1 hall d hd)))
      have hlen := h2.len
      refine ⟨hr.defers, if h : vs.toArray.size = 1 then vs.toArray[0] else .tuple vs.toArray, ?_, ⟨_, rfl, ?_⟩, hr.below⟩
      · rw [results_is, Sem.run_bind, Array.mapM_eq_mapM_toList, Sem.run_map, h1]
        rfl
      · match vs, l, h2 with
        | [], [], _ => exact ⟨#[], rfl, trivial⟩
        | [v], [d], h2 => exact h2.1
        | v :: v' :: vs, d :: d' :: l, h2 => exact ⟨(v :: v' :: vs).toArray, by simp, h2⟩
    cases e with
    | normal => exact fin hk
    | ret => exact fin hk
    | exit i => cases hk
  · intro he u pv a w' hd hb'
    subst he
    exact ⟨hd, ⟨u, pv, rfl⟩, hb'⟩
  · refine ⟨Below.refl _ _, hS, rfl, by simp [init, hlen], fun i => ?_, fun t b ht => (by cases ht), fun t r ht => (by cases ht), fun t u b c ht => (by cases ht), fun t b c ht => (by cases ht), fun t u r q b ht => (by cases ht), fun t r u c b ht => (by cases ht), fun t r q ht => (by cases ht)⟩
    have e1 : (args ++ Array.replicate (fn.ntmps - args.size) undef).getD i undef = (args.toList ++ List.replicate (fn.ntmps - ds.length) undef).getD i undef := by
      rw [Array.getD_eq_getD_getElem?, List.getD_eq_getElem?_getD, ← Array.getElem?_toList, Array.toList_append, Array.toList_replicate, hlen]
    rw [e1]
    have mv : Mv S (Sof S id S.val [] []) w w := ⟨Nat.le_refl _, fun _ _ _ => rfl, fun b _ hb => by
      rcases hb with hb | ⟨t, c, ht, _⟩ | ⟨t, c, ht, _⟩
      · exact hb
      · cases ht
      · (cases ht), fun _ _ => rfl⟩
    exact init_tm _ _ _ i (ha.imp (fun _ _ h => Rep1.mv mv h))
/-! ### Shapes -/
structure Sh (α : Type) where
  dec : D1 → Option α
  enc : α → D1
  ok : ∀ d a, dec d = some a → ∀ (S : Sc) (w : World) (v : Value), Rep1 S w v d → Rep1 S w v (enc a)
noncomputable def sI : Sh Int := ⟨fun d => match d with
  | .ce (.int .i64 n) => some n
  | _ => none, fun n => .ce (.int .i64 n), fun d a h S w v hv => by
    split at h
    · rw [← Option.some.inj h]; exact hv
    · cases h⟩
noncomputable def sB : Sh Bool := ⟨fun d => match d with
  | .ce (.bool n) => some n
  | _ => none, fun n => .ce (.bool n), fun d a h S w v hv => by
    split at h
    · rw [← Option.some.inj h]; exact hv
    · cases h⟩
theorem fints {S : Sc} {w : World} {v : Value} {t : Bool} {l : List Int} (h : RepC S w v (.ints t l)) : RepC S w v (.ints false l) := ⟨h.1, nofalse⟩
theorem fvals {S : Sc} {w : World} {v : Value} {t : Bool} {l : List S27} (h : RepC S w v (.vals t l)) : RepC S w v (.vals false l) := ⟨h.1, nofalse⟩
noncomputable def sL : Sh (List Int) := ⟨fun d => match d with
  | .ce (.ints _ n) => some n
  | _ => none, fun n => .ce (.ints false n), fun d a h S w v hv => by
    split at h
    · rw [← Option.some.inj h]; exact fints hv
    · cases h⟩
noncomputable def sV : Sh (List S27) := ⟨fun d => match d with
  | .ce (.vals _ n) => some n
  | _ => none, fun n => .ce (.vals false n), fun d a h S w v hv => by
    split at h
    · rw [← Option.some.inj h]; exact fvals hv
    · cases h⟩
noncomputable def sR : Sh (List (List Int)) := ⟨fun d => match d with
  | .ce (.rows n) => some n
  | _ => none, fun n => .ce (.rows n), fun d a h S w v hv => by
    split at h
    · rw [← Option.some.inj h]; exact hv
    · cases h⟩
theorem two {S : Sc} {w : World} : ∀ {l : List Value} {a b : Ce}, All2 (RepC S w) l [a, b] → ∃ x y, l = [x, y] ∧ RepC S w x a ∧ RepC S w y b
  | [x, y], a, b, ⟨h1, h2, _⟩ => ⟨x, y, rfl, h1, h2⟩
noncomputable def s1 : Sh S27 := ⟨fun d => match d with
  | .agg [.int .i64 n, .ints _ l] => some ⟨n, l⟩
  | _ => none, fun x => .agg [.int .i64 x.f0, .ints false x.f1], fun d a h S w v hv => by
    split at h
    · rw [← Option.some.inj h]
      obtain ⟨arr, e, hv⟩ := hv
      obtain ⟨x, y, e2, h1, h2⟩ := two hv
      exact ⟨arr, e, by rw [e2]; exact ⟨h1, fints h2, trivial⟩⟩
    · cases h⟩
abbrev Mom := Int × Int × Int × Int × Int × Int
noncomputable def sM : Sh Mom := ⟨fun d => match d with
  | .agg [.int .i64 a, .int .i64 b, .int .i64 c, .int .i64 d, .int .i64 e, .int .i64 f] => some (a, b, c, d, e, f)
  | _ => none, fun x => .agg [.int .i64 x.1, .int .i64 x.2.1, .int .i64 x.2.2.1, .int .i64 x.2.2.2.1, .int .i64 x.2.2.2.2.1, .int .i64 x.2.2.2.2.2], fun d a h S w v hv => by
    split at h
    · rw [← Option.some.inj h]; exact hv
    · cases h⟩
/-- A token. -/
noncomputable def sT : Sh (Int × Int × Int × Int × Int) := ⟨fun d => match d with
  | .agg [.int .i64 a, .int .i64 b, .int .i64 c, .int .i64 d, .int .i64 e] => some (a, b, c, d, e)
  | _ => none, fun x => .agg [.int .i64 x.1, .int .i64 x.2.1, .int .i64 x.2.2.1, .int .i64 x.2.2.2.1, .int .i64 x.2.2.2.2], fun d a h S w v hv => by
    split at h
    · rw [← Option.some.inj h]; exact hv
    · cases h⟩
theorem hd2 {S : Sc} {w : World} : ∀ {l : List Value} {a b : Ce} {r : List Ce}, All2 (RepC S w) l (a :: b :: r) → ∃ x y m, l = x :: y :: m ∧ RepC S w x a ∧ RepC S w y b ∧ All2 (RepC S w) m r
  | x :: y :: m, a, b, r, ⟨h1, h2, h3⟩ => ⟨x, y, m, rfl, h1, h2, h3⟩
/-- A maker: its op, its children, its reference. -/
noncomputable def sK : Sh (Int × List S27 × Mom) := ⟨fun d => match d with
  | .agg [.int .i64 o, .vals _ l, .int .i64 a, .int .i64 b, .int .i64 c, .int .i64 d, .int .i64 e, .int .i64 f] => some (o, l, a, b, c, d, e, f)
  | _ => none, fun x => .agg [.int .i64 x.1, .vals false x.2.1, .int .i64 x.2.2.1, .int .i64 x.2.2.2.1, .int .i64 x.2.2.2.2.1, .int .i64 x.2.2.2.2.2.1, .int .i64 x.2.2.2.2.2.2.1, .int .i64 x.2.2.2.2.2.2.2], fun d a h S w v hv => by
    split at h
    · rw [← Option.some.inj h]
      obtain ⟨arr, e, hv⟩ := hv
      obtain ⟨x, y, m, e2, h1, h2, h3⟩ := hd2 hv
      exact ⟨arr, e, by rw [e2]; exact ⟨h1, fvals h2, h3⟩⟩
    · cases h⟩
structure ShL (α : Type) where
  dec : List D1 → Option α
  enc : α → List D1
  ok : ∀ d a, dec d = some a → ∀ (S : Sc) (w : World) (vs : List Value), All2 (Rep1 S w) vs d → All2 (Rep1 S w) vs (enc a)
noncomputable def o0 : ShL Unit := ⟨fun d => match d with
  | [] => some ()
  | _ => none, fun _ => [], fun d a h S w v hv => by
    split at h
    · exact hv
    · cases h⟩
noncomputable def o1 {α : Type} (s : Sh α) : ShL α := ⟨fun d => match d with
  | [x] => s.dec x
  | _ => none, fun a => [s.enc a], fun d a h S w vs hv => by
    split at h
    · match vs, hv with
      | [v], hv => exact ⟨s.ok _ _ h S w v hv.1, trivial⟩
    · cases h⟩
noncomputable def oc {α β : Type} (s : Sh α) (r : ShL β) : ShL (α × β) := ⟨fun d => match d with
  | x :: l => match s.dec x with
    | some a => match r.dec l with
      | some b => some (a, b)
      | none => none
    | none => none
  | _ => none, fun p => s.enc p.1 :: r.enc p.2, fun d a h S w vs hv => by
    split at h
    · split at h
      · rename_i h1
        split at h
        · rename_i h2
          rw [← Option.some.inj h]
          match vs, hv with
          | v :: vs, hv => exact ⟨s.ok _ _ h1 S w v hv.1, r.ok _ _ h2 S w vs hv.2⟩
        · cases h
      · cases h
    · cases h⟩
/-! ### Contracts by plain functions -/
noncomputable def sp {α β : Type} (A : ShL α) (R : ShL β) (F : α → Option β) : Spec := fun ds k => match A.dec ds with
  | some a => match F a with
    | some b => k (.ret (packD (R.enc b)))
    | none => none
  | none => none
/-- The same, where a way may die. -/
noncomputable def spd {α β : Type} (A : ShL α) (R : ShL β) (F : α → Option (Option β)) : Spec := fun ds k => match A.dec ds with
  | some a => match F a with
    | some (some b) => k (.ret (packD (R.enc b)))
    | some none => k .dies
    | none => none
  | none => none
noncomputable def outOf {β : Type} (R : ShL β) : Option β → Out
  | some b => .ret (packD (R.enc b))
  | none => .dies
/-! ### Trees -/
noncomputable def bm {γ : Type} (b : Bool) (x y : γ) : γ := match b with
  | true => x
  | false => y
noncomputable def om {α γ : Type} (o : Option α) (x : γ) (f : α → γ) : γ := match o with
  | none => x
  | some a => f a
section
variable {α β γ : Type} {g : β → Option γ}
theorem nat_i {c : Prop} [Decidable c] {x y : Option β} {x' y' : Option γ} (h1 : x.bind g = x') (h2 : y.bind g = y') : (if c then x else y).bind g = if c then x' else y' := by split <;> assumption
theorem nat_b {b : Bool} {x y : Option β} {x' y' : Option γ} (h1 : x.bind g = x') (h2 : y.bind g = y') : (bm b x y).bind g = bm b x' y' := by cases b <;> assumption
theorem nat_o {o : Option α} {f : α → Option β} {f' : α → Option γ} (h : ∀ t, (f t).bind g = f' t) : (o.bind f).bind g = o.bind f' := by cases o; rfl; exact h _
theorem nat_m {o : Option α} {x : Option β} {x' : Option γ} {f : α → Option β} {f' : α → Option γ} (h1 : x.bind g = x') (h2 : ∀ t, (f t).bind g = f' t) : (om o x f).bind g = om o x' f' := by cases o; exact h1; exact h2 _
end
/-- A tree says what a function's code comes to. -/
theorem good_tree {α β : Type} (A : ShL α) (R : ShL β) (F : α → Option β) {Γ : Ctx} (hΓ : Ok Γ) (n : Nat) {f : Nat} {fn : Func} (hf : Try.prog.funcs[f]? = some fn) (hn : (fn.name == "runtime.NumGoroutine") = false) (hb : fn.body.isSome = true)
    (h : ∀ a, (F a).bind (fun b => some (.ret (packD (R.enc b)))) = run Γ n fn (A.enc a)) : Good f (sp A R F) := by
  refine ⟨⟨fn, hf, hn, hb⟩, fun ds k r hk => ?_⟩
  unfold sp at hk
  cases ha : A.dec ds with
  | none => rw [ha] at hk; cases hk
  | some a =>
    rw [ha] at hk
    cases hF : F a with
    | none => simp only [hF] at hk; cases hk
    | some b =>
      simp only [hF] at hk
      have h1 := h a
      rw [hF] at h1
      exact ⟨_, hk, fun k' => by unfold sp; rw [ha]; simp only [hF], fun S w args hS hargs => calls_of_run hΓ hf hb h1.symm S w args hS (A.ok _ _ ha S w _ hargs)⟩
theorem good_treed {α β : Type} (A : ShL α) (R : ShL β) (F : α → Option (Option β)) {Γ : Ctx} (hΓ : Ok Γ) (n : Nat) {f : Nat} {fn : Func} (hf : Try.prog.funcs[f]? = some fn) (hn : (fn.name == "runtime.NumGoroutine") = false) (hb : fn.body.isSome = true)
    (h : ∀ a, (F a).bind (fun b => some (outOf R b)) = run Γ n fn (A.enc a)) : Good f (spd A R F) := by
  refine ⟨⟨fn, hf, hn, hb⟩, fun ds k r hk => ?_⟩
  unfold spd at hk
  cases ha : A.dec ds with
  | none => rw [ha] at hk; cases hk
  | some a =>
    rw [ha] at hk
    cases hF : F a with
    | none => simp only [hF] at hk; cases hk
    | some b =>
      have h1 := h a
      rw [hF] at h1
      have fin : ∀ (S : Sc) (w : World) (args : Array Value), (∀ b, S.bad b → b < w.heap.size) → All2 (Rep1 S w) args.toList ds → Calls Try.prog f args w (Post S w (outOf R b)) := fun S w args hS hargs => calls_of_run hΓ hf hb h1.symm S w args hS (A.ok _ _ ha S w _ hargs)
      cases b with
      | none =>
        simp only [hF] at hk
        exact ⟨_, hk, fun k' => by unfold spd; rw [ha]; simp only [hF], fin⟩
      | some b =>
        simp only [hF] at hk
        exact ⟨_, hk, fun k' => by unfold spd; rw [ha]; simp only [hF], fin⟩
theorem Ok.nil {l : List Nat} : Ok ⟨[], l⟩ := fun p hp => (by cases hp)
theorem Ok.cons {f : Nat} {sp : Spec} {fs : List (Nat × Spec)} {l : List Nat} (h : Good f sp) (ht : Ok ⟨fs, l⟩) : Ok ⟨(f, sp) :: fs, l⟩ := fun p hp => by
  rcases List.mem_cons.1 hp with rfl | hp
  · exact h
  · exact ht p hp
/-- A contract that was shown otherwise. -/
theorem good_of {α β : Type} (A : ShL α) (R : ShL β) (F : α → Option β) {f : Nat} {fn : Func} (hf : Try.prog.funcs[f]? = some fn) (hn : (fn.name == "runtime.NumGoroutine") = false) (hb : fn.body.isSome = true)
    (h : ∀ a b, F a = some b → ∀ (S : Sc) (w : World) (args : Array Value), (∀ b, S.bad b → b < w.heap.size) → All2 (Rep1 S w) args.toList (A.enc a) → Calls Try.prog f args w (Post S w (.ret (packD (R.enc b))))) : Good f (sp A R F) := by
  refine ⟨⟨fn, hf, hn, hb⟩, fun ds k r hk => ?_⟩
  unfold sp at hk
  cases ha : A.dec ds with
  | none => rw [ha] at hk; cases hk
  | some a =>
    rw [ha] at hk
    cases hF : F a with
    | none => simp only [hF] at hk; cases hk
    | some b =>
      simp only [hF] at hk
      exact ⟨_, hk, fun k' => by unfold sp; rw [ha]; simp only [hF], fun S w args hS hargs => h a b hF S w args hS (A.ok _ _ ha S w _ hargs)⟩
theorem good_ofd {α β : Type} (A : ShL α) (R : ShL β) (F : α → Option (Option β)) {f : Nat} {fn : Func} (hf : Try.prog.funcs[f]? = some fn) (hn : (fn.name == "runtime.NumGoroutine") = false) (hb : fn.body.isSome = true)
    (h : ∀ a b, F a = some b → ∀ (S : Sc) (w : World) (args : Array Value), (∀ b, S.bad b → b < w.heap.size) → All2 (Rep1 S w) args.toList (A.enc a) → Calls Try.prog f args w (Post S w (outOf R b))) : Good f (spd A R F) := by
  refine ⟨⟨fn, hf, hn, hb⟩, fun ds k r hk => ?_⟩
  unfold spd at hk
  cases ha : A.dec ds with
  | none => rw [ha] at hk; cases hk
  | some a =>
    rw [ha] at hk
    cases hF : F a with
    | none => simp only [hF] at hk; cases hk
    | some b =>
      cases b with
      | none =>
        simp only [hF] at hk
        exact ⟨_, hk, fun k' => by unfold spd; rw [ha]; simp only [hF], fun S w args hS hargs => h a none hF S w args hS (A.ok _ _ ha S w _ hargs)⟩
      | some b =>
        simp only [hF] at hk
        exact ⟨_, hk, fun k' => by unfold spd; rw [ha]; simp only [hF], fun S w args hS hargs => h a (some b) hF S w args hS (A.ok _ _ ha S w _ hargs)⟩
/-! ### Rows, as the print says them -/
section
variable {S : Sc} {w : World}
theorem SlI.kd {v : Value} {l : List Int} (h : SlI S w v l) : ∃ A c, v = .slice A l.length c ∧ l.length ≤ c ∧ Kd.C (Kd.int .i64) w A l.length l := by
  obtain ⟨A, c, rfl, h1, h2, h3⟩ := h
  refine ⟨A, c, rfl, h1, rfl, h2, fun hl => ?_⟩
  obtain ⟨ad, rfl, hsp, hs, hc⟩ := h3 hl
  refine ⟨ad, rfl, fun j p hp => ⟨[.int .i64 p], rfl, rfl, fun i u hu => ?_⟩⟩
  cases i with
  | zero =>
    obtain rfl : Value.int .i64 p = u := by simpa using hu
    show w.cell? (ad.add (j * 1 + 0)) = _
    rw [Nat.mul_one, Nat.add_zero]; exact hc j p hp
  | succ i => simp at hu
theorem SlV.kd {v : Value} {l : List S27} (h : SlV S w v l) : ∃ A c, v = .slice A l.length c ∧ l.length ≤ c ∧ Kd.C k27 w A l.length l := by
  obtain ⟨A, c, rfl, h1, h2, h3⟩ := h
  refine ⟨A, c, rfl, h1, rfl, h2, fun hl => ?_⟩
  obtain ⟨ad, rfl, hsp, hs, hc⟩ := h3 hl
  refine ⟨ad, rfl, fun j p hp => ?_⟩
  obtain ⟨g1, v, g2, g3⟩ := hc j p hp
  obtain ⟨A1, c1, rfl, l1, k1⟩ := g3.kd
  refine ⟨[.int .i64 p.f0, .slice A1 p.f1.length c1], rfl, k27_mk w p l1 k1, fun i u hu => ?_⟩
  have hs27 : k27.sz = 2 := rfl
  rw [hs27]
  match i with
  | 0 => obtain rfl : Value.int .i64 p.f0 = u := by simpa using hu
         exact g1
  | 1 => obtain rfl : Value.slice A1 p.f1.length c1 = u := by simpa using hu
         exact g2
  | i + 2 => simp at hu
theorem SlI.of_C {A : Option Addr} {c : Nat} {l : List Int} (h : Kd.C (Kd.int .i64) w A l.length l) (hc : l.length ≤ c) (hsp : ∀ ad, 0 < l.length → A = some ad → ad.spot = none ∧ ¬ S.bad ad.block) : SlI S w (.slice A l.length c) l := by
  obtain ⟨h1, h2, h3⟩ := h
  refine ⟨A, c, rfl, hc, h2, fun hl => ?_⟩
  obtain ⟨ad, rfl, h4⟩ := h3 hl
  refine ⟨ad, rfl, (hsp ad hl rfl).1, (hsp ad hl rfl).2, fun j x hx => ?_⟩
  obtain ⟨cs, g1, g2, g3⟩ := h4 j x hx
  obtain rfl : cs = [.int .i64 x] := g2
  have := g3 0 _ rfl
  rw [Nat.add_zero, show j * (Kd.int .i64).sz = j from Nat.mul_one j] at this
  exact this
/-- A row that a call made. -/
theorem SlI.of_R {e base : Nat} {ok : Nat → Prop} {v : Value} {l : List Int} (h : Kd.R (Kd.int .i64) e w base ok v l) (hS : ∀ b, S.bad b → b < base) : SlI S w v l := by
  obtain ⟨A, c, rfl, hl, hC⟩ := Kd.R_reads h
  obtain ⟨h0, inner, ho, _⟩ := h
  refine SlI.of_C hC hl (fun ad hl hA => ?_)
  subst hA
  rcases ho.2 with ⟨h1, _⟩ | ⟨g, cap, cur, h1, h2, _⟩
  · cases h1
  · injection h1 with h1 _ _
    injection h1 with h1
    subst h1
    exact ⟨rfl, fun hs => absurd (hS _ hs) (by simp at h2 ⊢; omega)⟩
end
end Ev
end Go.Proofs.Ytldfljlklfhjkaa.PE
