/- Loops of the evaluator whose state forgets, at each round, the slots that no statement reads again; and a function whose code was told in parts. Conditions: none. -/
import Derived.Test.YtldfljlklfhjkaaEvM3
namespace Go.Proofs.Ytldfljlklfhjkaa.PE
open Go.RowKit
set_option linter.unusedVariables false
set_option linter.unusedSimpArgs false
namespace Ev
noncomputable def fg (m : Nat) (s : St) : St := ⟨s.tm.take m ++ List.replicate (s.tm.length - m) .any, s.bx, s.ow⟩
theorem fg_tm (m : Nat) (s : St) (i : Nat) : (fg m s).tmF i = s.tmF i ∨ (fg m s).tmF i = .any := by
  unfold fg St.tmF
  simp only [List.getD_eq_getElem?_getD]
  by_cases h : i < (s.tm.take m).length
  · left
    rw [List.getElem?_append_left h, List.getElem?_take]
    simp only [List.length_take] at h
    rw [if_pos (by omega)]
  · right
    rw [List.getElem?_append_right (by omega), List.getElem?_replicate]
    split <;> rfl
section
variable {S0 : Sc} {w0 : World} {r : Out} {ρ : Nat → Nat} {ν : Nat → Value} {s : St} {a : Act} {w : World}
theorem Rep.fg (h : Rep S0 w0 ρ ν s a w) (m : Nat) : Rep S0 w0 ρ ν (fg m s) a w where
  below := h.below
  base := h.base
  defers := h.defers
  size := by rw [← h.size]; simp only [Ev.fg, List.length_append, List.length_take, List.length_replicate]; omega
  tm := fun i => by
    rcases fg_tm m s i with e | e
    · rw [e]; exact h.tm i
    · rw [e]; exact trivial
  bx := h.bx
  ow := h.ow
  inj := h.inj
  keys := h.keys
  injO := h.injO
  injB := h.injB
  keysO := h.keysO
noncomputable def thn (fy : St → (Ex → St → Res) → Res) (k : Ex → St → Res) : Ex → St → Res := fun e s' => match e with
  | .normal => fy s' k
  | .exit i => k (.exit i) s'
  | .ret => k .ret s'
noncomputable def seqF (fx fy : St → (Ex → St → Res) → Res) : St → (Ex → St → Res) → Res := fun s k => fx s (thn fy k)
noncomputable def blk (id : Nat) (k : Ex → St → Res) : Ex → St → Res := fun e s' => match e with
  | .normal => k .normal s'
  | .exit i => if i = id then k .normal s' else k (.exit i) s'
  | .ret => k .ret s'
noncomputable def blkF (id : Nat) (fx : St → (Ex → St → Res) → Res) : St → (Ex → St → Res) → Res := fun s k => fx s (blk id k)
/-- the same, its rounds' ends forgotten -/
noncomputable def fgK (m : Nat) (f : St → (Ex → St → Res) → Res) : St → (Ex → St → Res) → Res := fun s k => f s fun e s => k e (fg m s)
noncomputable def fgS (m : Nat) (f : St → (Ex → St → Res) → Res) : St → (Ex → St → Res) → Res := fun s k => f (fg m s) k
noncomputable def loopF (n m : Nat) (f : St → (Ex → St → Res) → Res) : St → (Ex → St → Res) → Res := loopN n (fgK m f)
theorem loopF_succ (n m : Nat) (f : St → (Ex → St → Res) → Res) (s : St) (k : Ex → St → Res) : loopF (n + 1) m f s k = fgK m f s fun e s' => match e with
    | .normal => loopF n m f s' k
    | .exit i => k (.exit i) s'
    | .ret => k .ret s' := rfl
theorem denOps_append (Γ : Ctx) (ops : Array Oper) (k : St → Res) (l2 : List Oper) : ∀ (l1 : List Oper) (s : St), denOps Γ ops (l1 ++ l2) s k = denOps Γ ops l1 s fun s => denOps Γ ops l2 s k
  | [], s => rfl
  | o :: l1, s => by
    rw [List.cons_append, denOps_cons, denOps_cons]
    have ih : (fun s => denOps Γ ops (l1 ++ l2) s k) = fun s => denOps Γ ops l1 s fun s => denOps Γ ops l2 s k := funext fun s => denOps_append Γ ops k l2 l1 s
    have ih' : ∀ s, denOps Γ ops (l1 ++ l2) s k = denOps Γ ops l1 s fun s => denOps Γ ops l2 s k := fun s => congrFun ih s
    simp only [ih']
theorem COk.seq {x y : Code} {fx fy : St → (Ex → St → Res) → Res} (hx : COk S0 w0 r x fx) (hy : COk S0 w0 r y fy) : COk S0 w0 r (.seq x y) (seqF fx fy) := by
  intro Q k hk hD s ρ ν a w h hr
  refine wp_seq (hx (Exit.then (y.wp Try.prog Q) Q) _ (fun e s' ρ' ν' a' w' h' hr' => ?_) (fun he u pv a' w' hd hb => hD he u pv a' w' hd hb) s ρ ν a w h hr)
  cases e with
  | normal => exact hy Q k hk hD s' ρ' ν' a' w' h' hr'
  | exit i => exact hk _ s' ρ' ν' a' w' h' hr'
  | ret => exact hk _ s' ρ' ν' a' w' h' hr'
theorem COk.block {id : Nat} {x : Code} {fx : St → (Ex → St → Res) → Res} (hx : COk S0 w0 r x fx) : COk S0 w0 r (.block id x) (blkF id fx) := by
  intro Q k hk hD s ρ ν a w h hr
  refine wp_block (hx (Exit.inBlock id Q) _ (fun e s' ρ' ν' a' w' h' hr' => ?_) (fun he u pv a' w' hd hb => hD he u pv a' w' hd hb) s ρ ν a w h hr)
  cases e with
  | normal => exact hk .normal s' ρ' ν' a' w' h' hr'
  | exit i =>
    show (if i = id then Q .normal a' w' else Q (.exit i) a' w')
    have h' : (if i = id then k .normal s' else k (.exit i) s') = some r := h'
    by_cases hi : i = id
    · rw [if_pos hi] at h' ⊢; exact hk .normal s' ρ' ν' a' w' h' hr'
    · rw [if_neg hi] at h' ⊢; exact hk (.exit i) s' ρ' ν' a' w' h' hr'
  | ret => exact hk _ s' ρ' ν' a' w' h' hr'
theorem COk.fgS {x : Code} {f : St → (Ex → St → Res) → Res} (hx : COk S0 w0 r x f) (m : Nat) : COk S0 w0 r x (fgS m f) :=
  fun Q k hk hD s ρ ν a w h hr => hx Q k hk hD _ ρ ν a w h (hr.fg m)
theorem COk.fgK {x : Code} {f : St → (Ex → St → Res) → Res} (hx : COk S0 w0 r x f) (m : Nat) : COk S0 w0 r x (fgK m f) :=
  fun Q k hk hD s ρ ν a w h hr => hx Q _ (fun e s ρ ν a w h hr => hk e _ ρ ν a w h (hr.fg m)) hD s ρ ν a w h hr
theorem COk.loop {x : Code} {f : St → (Ex → St → Res) → Res} (hx : COk S0 w0 r x f) (n m : Nat) : COk S0 w0 r (.loop x) (loopF n m f) :=
  fun Q k hk hD s ρ ν a w h hr => wp_loop_rounds n (loopN_ok (hx.fgK m) Q _ hk hD n s ρ ν a w h hr)
end
/-- What a function's code, told by f, comes to. -/
noncomputable def finK (fn : Func) : Ex → St → Res := fun e s => match e with
  | .exit _ => none
  | _ => ((resD (frzAll s) fn.results.toList).bind fun l => if l.all D1.free = true then some (l.map D1.nrm) else none).map fun l => .ret (packD l)
theorem calls_of_runF {f : Nat} {fn : Func} {c : Code} (hf : Try.prog.funcs[f]? = some fn) (hc : fn.body = some c) {fc : St → (Ex → St → Res) → Res} (hfc : ∀ S0 w0 r, COk S0 w0 r c fc) {ds : List D1} {out : Out} (hrun : fc (init fn ds) (finK fn) = some out) (S : Sc) (w : World) (args : Array Value) (hS : ∀ b, S.bad b → b < w.heap.size) (ha : All2 (Rep1 S w) args.toList ds) : Calls Try.prog f args w (Post S w out) := by
  have hlen := ha.len
  simp only [Array.length_toList] at hlen
  refine calls_of_wp hf hc (hfc S w out _ _ ?_ ?_ (init fn ds) id S.val _ w hrun ?_)
  · intro e s ρ ν a w' hk hr
    have hr := hr.frzAll
    have fin : ((resD (frzAll s) fn.results.toList).bind fun l => if l.all D1.free = true then some (l.map D1.nrm) else none).map (fun l => Out.ret (packD l)) = some out → a.defers = [] ∧ ∃ v, (results fn a.tmps).run Try.prog w' = .ok v w' ∧ Post S w out (.returned v) w' := by
      intro hk
      obtain ⟨l, hl, hout⟩ := Option.map_eq_some_iff.1 hk
      obtain ⟨l', hl', hfr⟩ := Option.bind_eq_some_iff.1 hl
      split at hfr
      case isFalse => cases hfr
      case isTrue hall =>
      have hfr := Option.some.inj hfr
      subst hout
      obtain ⟨vs, h1, h2⟩ := res_ok hr _ l' hl'
      have h2 : All2 (Rep1 S w') vs l := hfr ▸ all2_mapr _ (fun _ _ => Rep1.nrm) (show All2 (Rep1 S w') vs l' from h2.impm (fun _ d hd => Rep1.off (S := Sof S ρ ν (frzAll s).bx (frzAll s).ow) (fun b hb => Or.inl hb) (List.all_eq_true.1 hall d hd)))
      have hlen := h2.len
      refine ⟨hr.defers, if h : vs.toArray.size = 1 then vs.toArray[0] else .tuple vs.toArray, ?_, ⟨_, rfl, ?_⟩, hr.below⟩
      · rw [results_is, Sem.run_bind, Array.mapM_eq_mapM_toList, Sem.run_map, h1]
        rfl
      · match vs, l, h2 with
        | [], [], _ => exact ⟨#[], rfl, trivial⟩
        | [v], [d], h2 => exact h2.1
        | v :: v' :: vs, d :: d' :: l, h2 => exact ⟨(v :: v' :: vs).toArray, by simp, h2⟩
    cases e with
    | normal => exact fin hk
    | ret => exact fin hk
    | exit i => cases hk
  · intro he u pv a w' hd hb'
    subst he
    exact ⟨hd, ⟨u, pv, rfl⟩, hb'⟩
  · refine ⟨Below.refl _ _, hS, rfl, by simp [init, hlen], fun i => ?_, fun t b ht => (by cases ht), fun t r ht => (by cases ht), fun t u b c ht => (by cases ht), fun t b c ht => (by cases ht), fun t u r q b ht => (by cases ht), fun t r u c b ht => (by cases ht), fun t r q ht => (by cases ht)⟩
    have e1 : (args ++ Array.replicate (fn.ntmps - args.size) undef).getD i undef = (args.toList ++ List.replicate (fn.ntmps - ds.length) undef).getD i undef := by
      rw [Array.getD_eq_getD_getElem?, List.getD_eq_getElem?_getD, ← Array.getElem?_toList, Array.toList_append, Array.toList_replicate, hlen]
    rw [e1]
    have mv : Mv S (Sof S id S.val [] []) w w := ⟨Nat.le_refl _, fun _ _ _ => rfl, fun b _ hb => by
      rcases hb with hb | ⟨t, c, ht, _⟩ | ⟨t, c, ht, _⟩
      · exact hb
      · cases ht
      · (cases ht), fun _ _ => rfl⟩
    exact init_tm _ _ _ i (ha.imp (fun _ _ h => Rep1.mv mv h))
end Ev
end Go.Proofs.Ytldfljlklfhjkaa.PE
