/- An evaluator of a function's code over plain values (numbers, bools, rows of numbers, rows of values, structs, local variables), and what its values say of a world. Conditions: each theorem's own. -/
import Derived.Test.YtldfljlklfhjkaaPEx0
import Derived.LoopN
namespace Go.Proofs.Ytldfljlklfhjkaa.PE
open Go.RowKit Go.Proofs.YtldfljlklfhjkaaW.PrintWords Go.Proofs.YtldfljlklfhjkaaW.PrintLast Go.Proofs.YtldfljlklfhjkaaW.PrintMore
set_option linter.unusedVariables false
set_option linter.unusedSimpArgs false
namespace Ev
/-! ### Values -/
/-- What one cell holds. -/
inductive Ce where
  | int (k : IntKind) (n : Int)
  | bool (b : Bool)
  | ints (tight : Bool) (l : List Int)
  | vals (tight : Bool) (l : List S27)
  | own (t : Nat)
  | rows (l : List (List Int))
  | any
inductive D1 where
  | ce (c : Ce)
  | agg (cs : List Ce)
inductive D where
  | one (d : D1)
  | tup (l : List D1)
  | box (t off : Nat)
  | eli (l : List Int) (i : Int)
  | elv (l : List S27) (i : Int) (off : Nat)
  | elr (l : List (List Int)) (i : Int)
  | eoi (t : Nat) (i : Int)
  | eov (t : Nat) (i : Int) (off : Nat)
  | any
/-- A row of the call's own. -/
inductive Row where
  | ints (l : List Int)
  | vals (l : List S27)
/-- The blocks in which nothing lies but variables and rows of the call's own; those rows, as slices. -/
structure Sc where
  bad : Nat → Prop
  val : Nat → Value
def All2 {α β : Type} (R : α → β → Prop) : List α → List β → Prop
  | [], [] => True
  | a :: la, b :: lb => R a b ∧ All2 R la lb
  | _, _ => False
theorem All2.imp {α β : Type} {R R' : α → β → Prop} (h : ∀ a b, R a b → R' a b) : ∀ {l : List α} {m : List β}, All2 R l m → All2 R' l m
  | [], [], _ => trivial
  | a :: la, b :: lb, ⟨h1, h2⟩ => ⟨h a b h1, All2.imp h h2⟩
  | [], _ :: _, h => h.elim
  | _ :: _, [], h => h.elim
theorem All2.len {α β : Type} {R : α → β → Prop} : ∀ {l : List α} {m : List β}, All2 R l m → l.length = m.length
  | [], [], _ => rfl
  | a :: la, b :: lb, ⟨_, h2⟩ => by simp [All2.len h2]
  | [], _ :: _, h => h.elim
  | _ :: _, [], h => h.elim
theorem All2.get {α β : Type} {R : α → β → Prop} : ∀ {l : List α} {m : List β}, All2 R l m → ∀ (i : Nat) (y : β), m[i]? = some y → ∃ x, l[i]? = some x ∧ R x y
  | [], [], _, i, y, h => by simp at h
  | a :: la, b :: lb, ⟨h1, h2⟩, 0, y, h => by simp at h; subst h; exact ⟨a, rfl, h1⟩
  | a :: la, b :: lb, ⟨h1, h2⟩, i + 1, y, h => by simpa using h2.get i y (by simpa using h)
  | [], _ :: _, h, _, _, _ => h.elim
  | _ :: _, [], h, _, _, _ => h.elim
theorem All2.app {α β : Type} {R : α → β → Prop} : ∀ {l : List α} {m : List β} {l' : List α} {m' : List β}, All2 R l m → All2 R l' m' → All2 R (l ++ l') (m ++ m')
  | [], [], _, _, _, h => h
  | a :: la, b :: lb, _, _, ⟨h1, h2⟩, h => ⟨h1, h2.app h⟩
  | [], _ :: _, _, _, h, _ => h.elim
  | _ :: _, [], _, _, h, _ => h.elim
theorem All2.take {α β : Type} {R : α → β → Prop} : ∀ {l : List α} {m : List β}, All2 R l m → ∀ n, All2 R (l.take n) (m.take n)
  | [], [], _, n => by simp [All2]
  | a :: la, b :: lb, _, 0 => by simp [All2]
  | a :: la, b :: lb, ⟨h1, h2⟩, n + 1 => ⟨h1, h2.take n⟩
  | [], _ :: _, h, _ => h.elim
  | _ :: _, [], h, _ => h.elim
theorem All2.drop {α β : Type} {R : α → β → Prop} : ∀ {l : List α} {m : List β}, All2 R l m → ∀ n, All2 R (l.drop n) (m.drop n)
  | [], [], _, n => by simp [All2]
  | a :: la, b :: lb, h, 0 => h
  | a :: la, b :: lb, ⟨h1, h2⟩, n + 1 => h2.drop n
  | [], _ :: _, h, _ => h.elim
  | _ :: _, [], h, _ => h.elim
theorem All2.set {α β : Type} {R : α → β → Prop} : ∀ {l : List α} {m : List β}, All2 R l m → ∀ n {x y}, R x y → All2 R (l.set n x) (m.set n y)
  | [], [], _, n, _, _, _ => by simp [All2]
  | a :: la, b :: lb, ⟨h1, h2⟩, 0, _, _, h => ⟨h, h2⟩
  | a :: la, b :: lb, ⟨h1, h2⟩, n + 1, _, _, h => ⟨h1, h2.set n h⟩
  | [], _ :: _, h, _, _, _, _ => h.elim
  | _ :: _, [], h, _, _, _, _ => h.elim
/-! ### What they say of a world. S: the blocks in which nothing of this lies (they are variables, and turn) -/
theorem add_block (a : Addr) (n : Nat) : (a.add n).block = a.block := by unfold Addr.add; split <;> rfl
theorem add_add (a : Addr) (n m : Nat) (hn : a.spot = none) : (a.add n).add m = a.add (n + m) := by
  obtain ⟨b, o, s⟩ := a
  simp only at hn; subst hn
  unfold Addr.add
  by_cases h1 : n = 0
  · subst h1; simp
  · by_cases h2 : m = 0
    · subst h2; simp [h1]
    · simp [h1, h2, Nat.add_assoc]
def CellsI (w : World) (ad : Addr) (l : List Int) : Prop := ∀ (j : Nat) (x : Int), l[j]? = some x → w.cell? (ad.add j) = some (.int .i64 x)
def SlI (S : Sc) (w : World) (v : Value) (l : List Int) : Prop :=
  ∃ A c, v = .slice A l.length c ∧ l.length ≤ c ∧ l.length ≤ 9223372036854775807 ∧ (0 < l.length → ∃ ad, A = some ad ∧ ad.spot = none ∧ ¬ S.bad ad.block ∧ CellsI w ad l)
def CellsV (S : Sc) (w : World) (ad : Addr) (l : List S27) : Prop :=
  ∀ (j : Nat) (x : S27), l[j]? = some x → w.cell? (ad.add (j * 2)) = some (.int .i64 x.f0) ∧ ∃ v, w.cell? (ad.add (j * 2 + 1)) = some v ∧ SlI S w v x.f1
def SlV (S : Sc) (w : World) (v : Value) (l : List S27) : Prop :=
  ∃ A c, v = .slice A l.length c ∧ l.length ≤ c ∧ l.length ≤ 9223372036854775807 ∧ (0 < l.length → ∃ ad, A = some ad ∧ ad.spot = none ∧ ¬ S.bad ad.block ∧ CellsV S w ad l)
/-- A row of rows. -/
def CellsR (S : Sc) (w : World) (ad : Addr) (l : List (List Int)) : Prop := ∀ (j : Nat) (x : List Int), l[j]? = some x → ∃ v, w.cell? (ad.add j) = some v ∧ SlI S w v x
def SlR (S : Sc) (w : World) (v : Value) (l : List (List Int)) : Prop :=
  ∃ A c, v = .slice A l.length c ∧ l.length ≤ c ∧ l.length ≤ 9223372036854775807 ∧ (0 < l.length → ∃ ad, A = some ad ∧ ad.spot = none ∧ ¬ S.bad ad.block ∧ CellsR S w ad l)
def RepC (S : Sc) (w : World) (v : Value) : Ce → Prop
  | .int k n => v = .int k n
  | .bool b => v = .bool b
  | .ints t l => SlI S w v l ∧ (t = true → ∃ A n, v = .slice A n n)
  | .vals t l => SlV S w v l ∧ (t = true → ∃ A n, v = .slice A n n)
  | .own t => v = S.val t ∧ ∃ A n c, v = .slice A n c
  | .rows l => SlR S w v l
  | .any => v.oneCell' = true
def Rep1 (S : Sc) (w : World) (v : Value) : D1 → Prop
  | .ce c => RepC S w v c
  | .agg cs => ∃ arr : Array Value, v = .agg arr ∧ All2 (RepC S w) arr.toList cs
def RepD (S : Sc) (w : World) (ρ : Nat → Nat) (v : Value) : D → Prop
  | .one d => Rep1 S w v d
  | .tup l => ∃ vs : Array Value, v = .tuple vs ∧ All2 (Rep1 S w) vs.toList l
  | .box t off => v = .pointer (some ⟨ρ t, off, none⟩)
  | .eli l i => ∃ ad : Addr, 0 ≤ i ∧ i < l.length ∧ v = .pointer (some (ad.add i.toNat)) ∧ ad.spot = none ∧ ¬ S.bad ad.block ∧ CellsI w ad l
  | .elv l i off => ∃ ad : Addr, 0 ≤ i ∧ i < l.length ∧ v = .pointer (some (ad.add (i.toNat * 2 + off))) ∧ ad.spot = none ∧ ¬ S.bad ad.block ∧ CellsV S w ad l
  | .elr l i => ∃ ad : Addr, 0 ≤ i ∧ i < l.length ∧ v = .pointer (some (ad.add i.toNat)) ∧ ad.spot = none ∧ ¬ S.bad ad.block ∧ CellsR S w ad l
  | .eoi t i => ∃ g n c, S.val t = .slice (some ⟨g, 0, none⟩) n c ∧ c ≠ 0 ∧ 0 ≤ i ∧ v = .pointer (some ⟨g, i.toNat, none⟩)
  | .eov t i off => ∃ g n c, S.val t = .slice (some ⟨g, 0, none⟩) n c ∧ c ≠ 0 ∧ 0 ≤ i ∧ v = .pointer (some ⟨g, i.toNat * 2 + off, none⟩)
  | .any => True
/-- A step: what is old and no variable stays; what is no variable ahead is none behind, if it is old. -/
structure Mvp (p : Nat → Prop) (S S' : Sc) (w w' : World) : Prop where
  size : w.heap.size ≤ w'.heap.size
  block : ∀ b, b < w.heap.size → ¬ S.bad b → w'.heap[b]? = w.heap[b]?
  sub : ∀ b, b < w.heap.size → S'.bad b → S.bad b
  val : ∀ t, ¬ p t → S'.val t = S.val t
abbrev Mv (S S' : Sc) (w w' : World) : Prop := Mvp (fun _ => False) S S' w w'
/-- Nothing of these rows is in it. -/
def Ce.no (p : Nat → Prop) : Ce → Prop
  | .own t => ¬ p t
  | _ => True
def D1.no (p : Nat → Prop) : D1 → Prop
  | .ce c => c.no p
  | .agg cs => ∀ c ∈ cs, c.no p
def D.no (p : Nat → Prop) : D → Prop
  | .one d => d.no p
  | .tup l => ∀ d ∈ l, d.no p
  | .eoi t _ => ¬ p t
  | .eov t _ _ => ¬ p t
  | _ => True
section
variable {q : Nat → Prop} {S S' : Sc} {w w' : World}
theorem Mvp.cell (h : Mvp q S S' w w') {p : Addr} {v : Value} (hp : ¬ S.bad p.block) (hc : w.cell? p = some v) : w'.cell? p = some v :=
  (World.cell?_of_block (w := w) (h.block p.block (World.block_lt_of_cell? w _ hc) hp)).trans hc
theorem Mvp.off (h : Mvp q S S' w w') {p : Addr} {v : Value} (hp : ¬ S.bad p.block) (hc : w.cell? p = some v) : ¬ S'.bad p.block :=
  fun hs => hp (h.sub _ (World.block_lt_of_cell? w _ hc) hs)
theorem CellsI.mv (h : Mvp q S S' w w') {ad : Addr} {l : List Int} (hs : ¬ S.bad ad.block) (hc : CellsI w ad l) : CellsI w' ad l :=
  fun j x hj => h.cell (by rw [add_block]; exact hs) (hc j x hj)
theorem CellsI.off (h : Mvp q S S' w w') {ad : Addr} {l : List Int} (hs : ¬ S.bad ad.block) (hc : CellsI w ad l) (hl : 0 < l.length) : ¬ S'.bad ad.block := by
  have := h.off (p := ad.add 0) (by rw [add_block]; exact hs) (hc 0 _ (List.getElem?_eq_getElem hl))
  rwa [add_block] at this
theorem SlI.mv (h : Mvp q S S' w w') {v : Value} {l : List Int} (hv : SlI S w v l) : SlI S' w' v l := by
  obtain ⟨A, c, rfl, h1, h2, h3⟩ := hv
  refine ⟨A, c, rfl, h1, h2, fun hl => ?_⟩
  obtain ⟨ad, rfl, hsp, hs, hc⟩ := h3 hl
  exact ⟨ad, rfl, hsp, hc.off h hs hl, hc.mv h hs⟩
theorem CellsV.mv (h : Mvp q S S' w w') {ad : Addr} {l : List S27} (hs : ¬ S.bad ad.block) (hc : CellsV S w ad l) : CellsV S' w' ad l := by
  intro j x hj
  obtain ⟨h1, v, h2, h3⟩ := hc j x hj
  exact ⟨h.cell (by rw [add_block]; exact hs) h1, v, h.cell (by rw [add_block]; exact hs) h2, h3.mv h⟩
theorem CellsV.off (h : Mvp q S S' w w') {ad : Addr} {l : List S27} (hs : ¬ S.bad ad.block) (hc : CellsV S w ad l) (hl : 0 < l.length) : ¬ S'.bad ad.block := by
  have := h.off (p := ad.add (0 * 2)) (by rw [add_block]; exact hs) (hc 0 _ (List.getElem?_eq_getElem hl)).1
  rwa [add_block] at this
theorem SlV.mv (h : Mvp q S S' w w') {v : Value} {l : List S27} (hv : SlV S w v l) : SlV S' w' v l := by
  obtain ⟨A, c, rfl, h1, h2, h3⟩ := hv
  refine ⟨A, c, rfl, h1, h2, fun hl => ?_⟩
  obtain ⟨ad, rfl, hsp, hs, hc⟩ := h3 hl
  exact ⟨ad, rfl, hsp, hc.off h hs hl, hc.mv h hs⟩
theorem CellsR.mv (h : Mvp q S S' w w') {ad : Addr} {l : List (List Int)} (hs : ¬ S.bad ad.block) (hc : CellsR S w ad l) : CellsR S' w' ad l := by
  intro j x hj
  obtain ⟨v, h2, h3⟩ := hc j x hj
  exact ⟨v, h.cell (by rw [add_block]; exact hs) h2, h3.mv h⟩
theorem CellsR.off (h : Mvp q S S' w w') {ad : Addr} {l : List (List Int)} (hs : ¬ S.bad ad.block) (hc : CellsR S w ad l) (hl : 0 < l.length) : ¬ S'.bad ad.block := by
  obtain ⟨v, h4, _⟩ := hc 0 _ (List.getElem?_eq_getElem hl)
  have := h.off (p := ad.add 0) (by rw [add_block]; exact hs) h4
  rwa [add_block] at this
theorem SlR.mv (h : Mvp q S S' w w') {v : Value} {l : List (List Int)} (hv : SlR S w v l) : SlR S' w' v l := by
  obtain ⟨A, c, rfl, h1, h2, h3⟩ := hv
  refine ⟨A, c, rfl, h1, h2, fun hl => ?_⟩
  obtain ⟨ad, rfl, hsp, hs, hc⟩ := h3 hl
  exact ⟨ad, rfl, hsp, hc.off h hs hl, hc.mv h hs⟩
theorem RepC.mvp (h : Mvp q S S' w w') {v : Value} : ∀ {c : Ce}, c.no q → RepC S w v c → RepC S' w' v c
  | .int _ _, _, hv => hv
  | .bool _, _, hv => hv
  | .ints _ _, _, hv => ⟨SlI.mv h hv.1, hv.2⟩
  | .vals _ _, _, hv => ⟨SlV.mv h hv.1, hv.2⟩
  | .own _, hn, hv => ⟨hv.1.trans (h.val _ hn).symm, hv.2⟩
  | .rows _, _, hv => SlR.mv h hv
  | .any, _, hv => hv
theorem All2.impm {α β : Type} {R R' : α → β → Prop} : ∀ {l : List α} {m : List β}, (∀ a, ∀ b ∈ m, R a b → R' a b) → All2 R l m → All2 R' l m
  | [], [], _, _ => trivial
  | a :: la, b :: lb, h, ⟨h1, h2⟩ => ⟨h a b List.mem_cons_self h1, All2.impm (fun a b hb => h a b (List.mem_cons_of_mem _ hb)) h2⟩
  | [], _ :: _, _, h => h.elim
  | _ :: _, [], _, h => h.elim
theorem Rep1.mvp (h : Mvp q S S' w w') {v : Value} : ∀ {d : D1}, d.no q → Rep1 S w v d → Rep1 S' w' v d
  | .ce _, hn, hv => RepC.mvp h hn hv
  | .agg _, hn, ⟨arr, e, hv⟩ => ⟨arr, e, hv.impm (fun _ c hc => RepC.mvp h (hn c hc))⟩
theorem RepD.mvp (h : Mvp q S S' w w') {ρ ρ' : Nat → Nat} {v : Value} {d : D} (hn : d.no q) (hd : RepD S w ρ v d) (hr : ∀ t off, d = .box t off → ρ' t = ρ t) : RepD S' w' ρ' v d := by
  cases d with
  | one d => exact Rep1.mvp h hn hd
  | tup l =>
    obtain ⟨vs, e, hv⟩ := hd
    exact ⟨vs, e, hv.impm (fun _ d hd => Rep1.mvp h (hn d hd))⟩
  | box t off => exact (by rw [show RepD S' w' ρ' v (.box t off) = (v = .pointer (some ⟨ρ' t, off, none⟩)) from rfl, hr t off rfl]; exact hd)
  | eli l i =>
    obtain ⟨ad, h0, h1, e, hsp, hs, hc⟩ := hd
    exact ⟨ad, h0, h1, e, hsp, hc.off h hs (by omega), hc.mv h hs⟩
  | elv l i off =>
    obtain ⟨ad, h0, h1, e, hsp, hs, hc⟩ := hd
    exact ⟨ad, h0, h1, e, hsp, hc.off h hs (by omega), hc.mv h hs⟩
  | elr l i =>
    obtain ⟨ad, h0, h1, e, hsp, hs, hc⟩ := hd
    exact ⟨ad, h0, h1, e, hsp, hc.off h hs (by omega), hc.mv h hs⟩
  | eoi t i =>
    obtain ⟨g, n, c, e, r⟩ := hd
    exact ⟨g, n, c, (h.val t hn).trans e, r⟩
  | eov t i off =>
    obtain ⟨g, n, c, e, r⟩ := hd
    exact ⟨g, n, c, (h.val t hn).trans e, r⟩
  | any => trivial
theorem Ce.no_f (c : Ce) : c.no (fun _ => False) := by cases c <;> first | trivial | exact id
theorem D1.no_f (d : D1) : d.no (fun _ => False) := by cases d <;> first | exact Ce.no_f _ | exact fun c _ => Ce.no_f c
theorem D.no_f (d : D) : d.no (fun _ => False) := by cases d <;> first | trivial | exact D1.no_f _ | exact fun d _ => D1.no_f d | exact id
theorem RepC.mv (h : Mv S S' w w') {v : Value} {c : Ce} (hc : RepC S w v c) : RepC S' w' v c := RepC.mvp h c.no_f hc
theorem Rep1.mv (h : Mv S S' w w') {v : Value} {d : D1} (hd : Rep1 S w v d) : Rep1 S' w' v d := Rep1.mvp h d.no_f hd
theorem RepD.mv (h : Mv S S' w w') {ρ ρ' : Nat → Nat} {v : Value} {d : D} (hd : RepD S w ρ v d) (hr : ∀ t off, d = .box t off → ρ' t = ρ t) : RepD S' w' ρ' v d := RepD.mvp h d.no_f hd hr
def D.isBox : D → Bool
  | .box _ _ => true
  | _ => false
theorem RepC.one {v : Value} {c : Ce} (h : RepC S w v c) : v.oneCell' = true := by
  cases c with
  | int k n => rw [show v = .int k n from h]; rfl
  | bool b => rw [show v = .bool b from h]; rfl
  | ints t l => obtain ⟨A, c, rfl, _⟩ := h.1; rfl
  | vals t l => obtain ⟨A, c, rfl, _⟩ := h.1; rfl
  | own t => obtain ⟨_, A, n, c, rfl⟩ := h; rfl
  | rows l => obtain ⟨A, c, rfl, _⟩ := h; rfl
  | any => exact h
theorem RepC.cells {v : Value} {c : Ce} (h : RepC S w v c) : v.cells = #[v] := by
  cases c with
  | int k n => rw [show v = .int k n from h]; rfl
  | bool b => rw [show v = .bool b from h]; rfl
  | ints t l => obtain ⟨A, c, rfl, _⟩ := h.1; rfl
  | vals t l => obtain ⟨A, c, rfl, _⟩ := h.1; rfl
  | own t => obtain ⟨_, A, n, c, rfl⟩ := h; rfl
  | rows l => obtain ⟨A, c, rfl, _⟩ := h; rfl
  | any => exact (by cases v <;> first | rfl | cases (show false = true from h))
def D1.cells : D1 → List Ce
  | .ce c => [c]
  | .agg cs => cs
theorem Rep1.cells {v : Value} {d : D1} (h : Rep1 S w v d) : All2 (RepC S w) v.cells.toList d.cells := by
  cases d with
  | ce c => rw [RepC.cells h]; exact ⟨h, trivial⟩
  | agg cs => obtain ⟨arr, rfl, h⟩ := h; exact h
theorem All2.mv (h : Mv S S' w w') {l : List Value} {m : List Ce} (hl : All2 (RepC S w) l m) : All2 (RepC S' w') l m := hl.imp (fun _ _ => RepC.mv h)
theorem All2.mvp (h : Mvp q S S' w w') {l : List Value} {m : List Ce} (hm : ∀ c ∈ m, c.no q) (hl : All2 (RepC S w) l m) : All2 (RepC S' w') l m := hl.impm (fun _ c hc => RepC.mvp h (hm c hc))
end
noncomputable section
/-! ### Types: the cells of a variable just made; a struct's fields (offset, type) -/
noncomputable def i0 : Ce := .int .i64 0
noncomputable def tyZ : Nat → Option (List Ce)
  | 3 => some [i0]
  | 4 => some [.bool false]
  | 22 => some [.ints true []]
  | 24 => some [.vals true []]
  | 27 => some [i0, .ints true []]
  | 30 => some [i0, .ints true []]
  | 32 => some [i0, i0, i0, i0, i0, i0]
  | 49 => some [i0, i0, i0, i0, i0]
  | 62 => some [i0, .vals true [], i0, i0, i0, i0, i0, i0]
  | _ => none
noncomputable def tyF : Nat → Option (List (Nat × Nat))
  | 27 => some [(0, 3), (1, 22)]
  | 30 => some [(0, 3), (1, 22)]
  | 32 => some [(0, 3), (1, 3), (2, 3), (3, 3), (4, 3), (5, 3)]
  | 49 => some [(0, 3), (1, 3), (2, 3), (3, 3), (4, 3)]
  | 62 => some [(0, 3), (1, 24), (2, 32)]
  | _ => none
noncomputable def zvC : Ce → Value
  | .int k n => .int k n
  | .bool b => .bool b
  | _ => .slice none 0 0
noncomputable def zvT (t : Nat) (z : List Ce) : Value := if (tyF t).isSome then .agg (z.map zvC).toArray else zvC (z.headD i0)
noncomputable def fieldsOf (t : Nat) : Option (List (Nat × Nat)) := match Try.prog.underlying t with
  | some (.struct fs) => some (fs.toList.map fun f => (f.offset, f.type))
  | _ => none
noncomputable def aggOf (t : Nat) : Option Bool := (Try.prog.underlying t).map fun
  | .struct _ | .array _ _ => true
  | _ => false
structure TyOk (t : Nat) (z : List Ce) : Prop where
  info : (Try.prog.info? t).map (fun i => (i.zero, i.size)) = some (some (zvT t z), z.length)
  fields : fieldsOf t = tyF t
  agg : aggOf t = some (tyF t).isSome
theorem ty_ok : ∀ {t : Nat} {z : List Ce}, tyZ t = some z → TyOk t z := by
  intro t z h
  unfold tyZ at h
  split at h <;> first | (cases h; done) | (injection h with h; subst h; exact ⟨by kernel_rfl, by kernel_rfl, by kernel_rfl⟩)
/-! ### Operations -/
/-- A variable of the call's own: the type of its cells, what they hold. -/
structure BoxC where
  ty : Nat
  cs : List Ce
inductive Eff where
  | none
  | new (b : BoxC)
  | put (t : Nat) (b : BoxC)
  | app (old : Option Nat) (r : Row)
  | set (t : Nat) (r : Row)
inductive Out where
  | ret (d : D)
  | dies
abbrev Res := Option Out
abbrev Spec := List D1 → (Out → Res) → Res
/-- Contracts of callees; which literals are rows of the call's own. -/
structure Ctx where
  fs : List (Nat × Spec)
  ow : List Nat
noncomputable def num (n : Int) : D := .one (.ce (.int .i64 n))
noncomputable def bo (b : Bool) : D := .one (.ce (.bool b))
noncomputable def evD (tm : Nat → D) : Operand → D
  | .tmp t => tm t
  | .const (.int k n) => .one (.ce (.int k n))
  | .const (.bool b) => bo b
  | .const (.slice none 0 0) => .one (.ce (.ints true []))
  | _ => .any
noncomputable def splitB (b : Bool) (k : Bool → Res) : Res := match b with
  | true => k true
  | false => k false
noncomputable def splitC (c : Ce) (k : Ce → Res) : Res := match c with
  | .bool b => splitB b fun b => k (.bool b)
  | c => k c
noncomputable def split1 (d : D1) (k : D1 → Res) : Res := match d with
  | .ce c => splitC c fun c => k (.ce c)
  | d => k d
noncomputable def splitL (l : List D1) : (List D1 → Res) → Res :=
  List.rec (motive := fun _ => (List D1 → Res) → Res) (fun k => k []) (fun d _ ih k => split1 d fun d => ih fun r => k (d :: r)) l
noncomputable def splitD (d : D) (k : D → Res) : Res := match d with
  | .one d => split1 d fun d => k (.one d)
  | .tup l => splitL l fun l => k (.tup l)
  | d => k d
noncomputable def denBin (t : Nat) (op : BinOp) (x y : D) (k : D → Res) : Res :=
  match x, y with
  | .one (.ce (.int .i64 a)), .one (.ce (.int .i64 b)) =>
    match op with
    | .add => k (num (wrap64 (a + b)))
    | .sub => k (num (wrap64 (a - b)))
    | .mul => k (num (wrap64 (a * b)))
    | .quo => if b = 0 then none else k (num (wrap64 (a.tdiv b)))
    | .rem => if b = 0 then none else k (num (a.tmod b))
    | .eql => if a = b then k (bo true) else k (bo false)
    | .neq => if a = b then k (bo false) else k (bo true)
    | .lss => if a < b then k (bo true) else k (bo false)
    | .leq => if a ≤ b then k (bo true) else k (bo false)
    | .gtr => if a > b then k (bo true) else k (bo false)
    | .geq => if a ≥ b then k (bo true) else k (bo false)
    | _ => none
  | .one (.ce (.bool a)), .one (.ce (.bool b)) =>
    match op with
    | .eql => if t = 4 then splitB (a == b) fun b => k (bo b) else none
    | .neq => if t = 4 then splitB (a != b) fun b => k (bo b) else none
    | _ => none
  | _, _ => none
noncomputable def splice (cs : List Ce) (off : Nat) (new : List Ce) : List Ce := cs.take off ++ new ++ cs.drop (off + new.length)
noncomputable def fillC (place : Nat → Option (Nat × Nat)) : List Ce → List (Nat × D) → Option (List Ce)
  | cs, [] => some cs
  | cs, (i, .one d) :: r => match place i with
    | some (off, sz) => if d.cells.length = sz ∧ off + sz ≤ cs.length then fillC place (splice cs off d.cells) r else none
    | none => none
  | _, _ => none
noncomputable def placeS (fs : List (Nat × Nat)) (i : Nat) : Option (Nat × Nat) := match fs[i]? with
  | some (off, ft) => (tyZ ft).map fun z => (off, z.length)
  | none => none
noncomputable def toInts : List Ce → Option (List Int)
  | [] => some []
  | .int .i64 n :: r => (toInts r).map (n :: ·)
  | _ => none
noncomputable def toVals : List Ce → Option (List S27)
  | [] => some []
  | .int .i64 n :: .ints _ l :: r => (toVals r).map (⟨n, l⟩ :: ·)
  | _ => none
/-- A row of rows, read. -/
def rdR (l : List (List Int)) (i : Int) : List Int := l.getD i.toNat []
noncomputable def toRows : List Ce → Option (List (List Int))
  | [] => some []
  | .ints _ l :: r => (toRows r).map (l :: ·)
  | _ => none
noncomputable def part (ft : Nat) (cs : List Ce) (off : Nat) : Option D := match tyZ ft with
  | some z => if (tyF ft).isSome then some (.one (.agg ((cs.drop off).take z.length))) else (cs[off]?).map fun c => .one (.ce c)
  | none => none
noncomputable def ones : List D → Option (List D1)
  | [] => some []
  | .one d :: r => (ones r).map (d :: ·)
  | _ => none
/-- What may be appended to; what is appended. -/
noncomputable def headR (t : Nat) (ov : Nat → Option Row) : D → Option (Option Nat × Row)
  | .one (.ce (.ints true [])) => some (none, if t = 24 then .vals [] else .ints [])
  | .one (.ce (.vals true [])) => some (none, .vals [])
  | .one (.ce (.own t)) => (ov t).map fun r => (some t, r)
  | _ => none
noncomputable def tailR (ov : Nat → Option Row) : D → Option Row
  | .one (.ce (.ints _ l)) => some (.ints l)
  | .one (.ce (.vals _ l)) => some (.vals l)
  | .one (.ce (.own t)) => ov t
  | _ => none
/-- An operation: what it leaves in its slot, what it does to the call's variables. -/
noncomputable def denOp (Γ : Ctx) (tm : Nat → D) (bv : Nat → Option BoxC) (ov : Nat → Option Row) (dst : Option Nat) (op : Op) (k : D → Eff → Res) (kd : Res) : Res :=
  match op with
  | .move x => k (evD tm x) .none
  | .assign x => k (evD tm x) .none
  | .pick c x y => match evD tm c with
    | .one (.ce (.bool b)) => if b = true then k (evD tm x) .none else k (evD tm y) .none
    | _ => none
  | .alloc t => match tyZ t, dst with
    | some z, some d => k (.box d 0) (.new ⟨t, z⟩)
    | _, _ => none
  | .box t x => match evD tm x, dst with
    | .one v, some d => k (.box d 0) (.new ⟨t, v.cells⟩)
    | _, _ => none
  | .build t parts => match tyZ t, tyF t with
    | some z, some fs => match fillC (placeS fs) z (parts.toList.map fun p => (p.1, evD tm p.2)) with
      | some cs => k (.one (.agg cs)) .none
      | none => none
    | _, _ => none
  | .buildSlice t n parts =>
    if n > 1000 then none
    else if t = 22 then
      match fillC (fun i => some (i * 1, 1)) ((List.range (n * 1)).map fun _ => i0) (parts.toList.map fun p => (p.1, evD tm p.2)) with
      | some cs => match toInts cs with
        | some l => match dst with
          | some d => if Γ.ow.contains d = true then k (.one (.ce (.own d))) (.app none (.ints l)) else k (.one (.ce (.ints true l))) .none
          | none => none
        | none => none
      | none => none
    else if t = 24 then
      match fillC (fun i => some (i * 2, 2)) ((List.range (n * 2)).map fun i => if i % 2 = 0 then i0 else .ints true []) (parts.toList.map fun p => (p.1, evD tm p.2)) with
      | some cs => match toVals cs with
        | some l => match dst with
          | some d => if Γ.ow.contains d = true then k (.one (.ce (.own d))) (.app none (.vals l)) else k (.one (.ce (.vals true l))) .none
          | none => none
        | none => none
      | none => none
    else if t = 40 then
      match fillC (fun i => some (i * 1, 1)) ((List.range (n * 1)).map fun _ => .ints true []) (parts.toList.map fun p => (p.1, evD tm p.2)) with
      | some cs => match toRows cs with
        | some l => k (.one (.ce (.rows l))) .none
        | none => none
      | none => none
    else none
  | .load t x => match evD tm x with
    | .box b off => match bv b, tyZ t with
      | some bc, some z => if off + z.length ≤ bc.cs.length then
          match part t bc.cs off with
          | some d => splitD d fun d => k d .none
          | none => none
        else none
      | _, _ => none
    | .eli l i => if t = 3 then k (num (rd l i)) .none else none
    | .elv l i off =>
      if t = 27 then if off = 0 then k (.one (.agg [.int .i64 (rd_T27 l i).f0, .ints false (rd_T27 l i).f1])) .none else none
      else if t = 3 then if off = 0 then k (num (rd_T27 l i).f0) .none else none
      else if t = 22 then if off = 1 then k (.one (.ce (.ints false (rd_T27 l i).f1))) .none else none
      else none
    | .elr l i => if t = 22 then k (.one (.ce (.ints false (rdR l i)))) .none else none
    | .eoi u i => match ov u with
      | some (.ints l) => if t = 3 then if i < l.length then k (num (rd l i)) .none else none else none
      | _ => none
    | .eov u i off => match ov u with
      | some (.vals l) => if i < l.length then
          if t = 27 then if off = 0 then k (.one (.agg [.int .i64 (rd_T27 l i).f0, .ints false (rd_T27 l i).f1])) .none else none
          else if t = 3 then if off = 0 then k (num (rd_T27 l i).f0) .none else none
          else if t = 22 then if off = 1 then k (.one (.ce (.ints false (rd_T27 l i).f1))) .none else none
          else none
        else none
      | _ => none
    | _ => none
  | .store t x y => match evD tm x, evD tm y, tyZ t with
    | .box b off, .one v, some z => match bv b with
      | some bc => if v.cells.length = z.length ∧ off + z.length ≤ bc.cs.length then k .any (.put b ⟨bc.ty, splice bc.cs off v.cells⟩) else none
      | none => none
    | .eoi u i, .one (.ce (.int .i64 n)), some _ => match ov u with
      | some (.ints l) => if t = 3 then if i < l.length then k .any (.set u (.ints (l.set i.toNat n))) else none else none
      | _ => none
    | .eov u i 0, .one (.agg [.int .i64 n, .ints _ m]), some _ => match ov u with
      | some (.vals l) => if t = 27 then if i < l.length then k .any (.set u (.vals (l.set i.toNat ⟨n, m⟩))) else none else none
      | _ => none
    | _, _, _ => none
  | .binOp op t x y _ => denBin t op (evD tm x) (evD tm y) fun d => k d .none
  | .unOp op _ x => match op, evD tm x with
    | .neg, .one (.ce (.int .i64 n)) => k (num (wrap64 (0 - n))) .none
    | .not, .one (.ce (.bool b)) => splitB (!b) fun b => k (bo b) .none
    | _, _ => none
  | .fieldAddr t x f => match tyF t with
    | some fs => match fs[f]? with
      | some (off, ft) => match tyZ ft, evD tm x with
        | some z, .box b o => if z.length = 0 then none else k (.box b (o + off)) .none
        | some z, .elv l i 0 => if t = 27 ∧ z.length ≠ 0 then k (.elv l i off) .none else none
        | some z, .eov u i 0 => if t = 27 ∧ z.length ≠ 0 then k (.eov u i off) .none else none
        | _, _ => none
      | none => none
    | none => none
  | .field t x f => match tyF t, evD tm x with
    | some fs, .one (.agg cs) => match fs[f]? with
      | some (off, ft) => match part ft cs off with
        | some d => splitD d fun d => k d .none
        | none => none
      | none => none
    | _, _ => none
  | .indexAddr t x y => match evD tm x, evD tm y with
    | .one (.ce (.ints _ l)), .one (.ce (.int .i64 i)) => if t = 22 then if 0 ≤ i then if i < l.length then k (.eli l i) .none else none else none else none
    | .one (.ce (.vals _ l)), .one (.ce (.int .i64 i)) => if t = 24 then if 0 ≤ i then if i < l.length then k (.elv l i 0) .none else none else none else none
    | .one (.ce (.rows l)), .one (.ce (.int .i64 i)) => if t = 40 then if 0 ≤ i then if i < l.length then k (.elr l i) .none else none else none else none
    | .one (.ce (.own u)), .one (.ce (.int .i64 i)) => match ov u with
      | some (.ints l) => if t = 22 then if 0 ≤ i then if i < l.length then k (.eoi u i) .none else none else none else none
      | some (.vals l) => if t = 24 then if 0 ≤ i then if i < l.length then k (.eov u i 0) .none else none else none else none
      | none => none
    | _, _ => none
  | .slice t x lo hi mx => match evD tm x, mx with
    | .one (.ce (.ints _ l)), none => if t = 22 then
        match lo.map (evD tm), hi.map (evD tm) with
        | some (.one (.ce (.int .i64 i))), none => if 0 ≤ i then if i ≤ l.length then k (.one (.ce (.ints false (l.drop i.toNat)))) .none else none else none
        | none, some (.one (.ce (.int .i64 i))) => if 0 ≤ i then if i ≤ l.length then k (.one (.ce (.ints false (l.take i.toNat)))) .none else none else none
        | _, _ => none
      else none
    | _, _ => none
  | .extract x i => match evD tm x with
    | .tup l => match l[i]? with
      | some d => k (.one d) .none
      | none => none
    | _ => none
  | .call c => match c.callee with
    | .builtin .len => match c.args.toList, c.argTypes.toList with
      | [x], [t] => match evD tm x with
        | .one (.ce (.ints _ l)) => if t = 22 then k (num l.length) .none else none
        | .one (.ce (.vals _ l)) => if t = 24 then k (num l.length) .none else none
        | .one (.ce (.own u)) => match ov u with
          | some (.ints l) => if t = 22 then k (num l.length) .none else none
          | some (.vals l) => if t = 24 then k (num l.length) .none else none
          | none => none
        | _ => none
      | _, _ => none
    | .builtin .append => match c.args.toList, c.argTypes.toList, dst with
      | [x, y], [t, u], some d => if t = u then
          match headR t ov (evD tm x), tailR ov (evD tm y) with
          | some (old, .ints l), some (.ints m) => if t = 22 then if l.length + m.length ≤ 1000000 then (if (old.isSome || Γ.ow.contains d) = true then k (.one (.ce (.own d))) (.app old (.ints (l ++ m))) else k (.one (.ce (.ints false (l ++ m)))) .none) else none else none
          | some (old, .vals l), some (.vals m) => if t = 24 then if l.length + m.length ≤ 1000000 then (if (old.isSome || Γ.ow.contains d) = true then k (.one (.ce (.own d))) (.app old (.vals (l ++ m))) else k (.one (.ce (.vals false (l ++ m)))) .none) else none else none
          | _, _ => none
        else none
      | _, _, _ => none
    | .builtin .max => match c.args.toList with
      | [x, y] => match evD tm x, evD tm y with
        | .one (.ce (.int .i64 a)), .one (.ce (.int .i64 b)) => if a < b then k (num b) .none else k (num a) .none
        | _, _ => none
      | _ => none
    | .builtin .min => match c.args.toList with
      | [x, y] => match evD tm x, evD tm y with
        | .one (.ce (.int .i64 a)), .one (.ce (.int .i64 b)) => if b < a then k (num b) .none else k (num a) .none
        | _, _ => none
      | _ => none
    | .value (.func f) => match Γ.fs.lookup f with
      | some sp => match ones (c.args.toList.map (evD tm)) with
        | some ds => sp ds fun out => match out with
          | .ret (.one d) => split1 d fun d => k (.one d) .none
          | .ret (.tup l) => splitL l fun l => k (.tup l) .none
          | .dies => kd
          | _ => none
        | none => none
      | none => none
    | _ => none
  | _ => none
end
/-! ### What the types' tables say of the runs -/
section
variable {t : Nat} {z : List Ce} (w : World)
theorem ty_info (h : tyZ t = some z) : ∃ i, Try.prog.info? t = some i ∧ i.zero = some (zvT t z) ∧ i.size = z.length := by
  have := (ty_ok h).info
  cases hi : Try.prog.info? t with
  | none => rw [hi] at this; cases this
  | some i =>
    rw [hi] at this
    simp only [Option.map_some, Option.some.injEq, Prod.mk.injEq] at this
    exact ⟨i, rfl, this.1, this.2⟩
theorem run_size (h : tyZ t = some z) : (sizeOf t).run Try.prog w = .ok z.length w := by
  obtain ⟨i, h1, _, h2⟩ := ty_info h
  simp [sizeOf, typeInfo, h1, h2, Result.andThen]
theorem run_zero (h : tyZ t = some z) : (zeroValue t).run Try.prog w = .ok (zvT t z) w := by
  obtain ⟨i, h1, h2, _⟩ := ty_info h
  simp [zeroValue, typeInfo, h1, h2, Result.andThen]
theorem run_agg (h : tyZ t = some z) : (isAgg t).run Try.prog w = .ok (tyF t).isSome w := by
  have := (ty_ok h).agg
  unfold aggOf at this
  cases hu : Try.prog.underlying t with
  | none => rw [hu] at this; cases this
  | some d =>
    rw [hu] at this
    have this := Option.some.inj this
    unfold isAgg
    rw [Sem.run_bind, run_underlying hu w, ← this]
    cases d <;> rfl
theorem ty_fields {fs : List (Nat × Nat)} (h : tyZ t = some z) (hf : tyF t = some fs) : ∃ fields : Array Field, Try.prog.underlying t = some (.struct fields) ∧ fields.toList.map (fun f => (f.offset, f.type)) = fs := by
  have := (ty_ok h).fields
  rw [hf] at this
  unfold fieldsOf at this
  split at this
  · rename_i fields hu
    exact ⟨fields, hu, Option.some.inj this⟩
  · cases this
end
theorem tyZ_of_F {t : Nat} {fs : List (Nat × Nat)} (hf : tyF t = some fs) : ∃ z, tyZ t = some z := by
  unfold tyF at hf
  split at hf <;> first | (cases hf; done) | exact ⟨_, rfl⟩
theorem ty_field {t i off ft : Nat} {z : List Ce} {fs : List (Nat × Nat)} (h : tyZ t = some z) (hf : tyF t = some fs) (hi : fs[i]? = some (off, ft)) :
    ∃ fields : Array Field, ∃ f, Try.prog.underlying t = some (.struct fields) ∧ fields[i]? = some f ∧ f.offset = off ∧ f.type = ft := by
  obtain ⟨fields, hu, he⟩ := ty_fields h hf
  rw [← he, List.getElem?_map] at hi
  obtain ⟨f, hf1, hf2⟩ := Option.map_eq_some_iff.1 hi
  simp only [Prod.mk.injEq] at hf2
  exact ⟨fields, f, hu, by simpa using hf1, hf2.1, hf2.2⟩
theorem zv_rep (S : Sc) (w : World) : ∀ c : Ce, (match c with | .ints _ l => l = [] | .vals _ l => l = [] | .own _ => False | .rows _ => False | .any => False | _ => True) → RepC S w (zvC c) c
  | .int _ _, _ => rfl
  | .bool _, _ => rfl
  | .ints _ l, h => by subst h; exact ⟨⟨none, 0, rfl, Nat.le_refl _, by simp, fun h => absurd h (by simp)⟩, fun _ => ⟨none, 0, rfl⟩⟩
  | .vals _ l, h => by subst h; exact ⟨⟨none, 0, rfl, Nat.le_refl _, by simp, fun h => absurd h (by simp)⟩, fun _ => ⟨none, 0, rfl⟩⟩
theorem zero_rep (S : Sc) (w : World) {t : Nat} {z : List Ce} (h : tyZ t = some z) : All2 (RepC S w) (zvT t z).cells.toList z := by
  have zi : RepC S w (zvC i0) i0 := rfl
  have zs : RepC S w (zvC (.ints true [])) (.ints true []) := zv_rep S w (.ints true []) rfl
  have zl : RepC S w (zvC (.vals true [])) (.vals true []) := zv_rep S w (.vals true []) rfl
  unfold tyZ at h
  split at h <;> first | (cases h; done) | (injection h with h; subst h; refine ⟨?_, ?_⟩ <;> first | exact zi | exact zs | exact zl | trivial | rfl | exact ⟨zs, trivial⟩ | exact ⟨zi, zi, zi, zi, zi, trivial⟩ | exact ⟨zi, zi, zi, zi, trivial⟩ | exact ⟨zl, zi, zi, zi, zi, zi, zi, trivial⟩)
/-! ### The place of an operation -/
/-- Where a row of the call's own lies. -/
def ownB : Value → Option Nat
  | .slice (some a) _ c => if c = 0 then none else some a.block
  | _ => none
def ElV (S : Sc) (w : World) (xs : List Value) (l : List S27) : Prop := ∀ (j : Nat) (x : S27), l[j]? = some x → xs[j * 2]? = some (.int .i64 x.f0) ∧ ∃ u, xs[j * 2 + 1]? = some u ∧ SlI S w u x.f1
def OwnR (S : Sc) (w : World) (B : Nat) (v : Value) : Row → Prop
  | .ints l => (∃ A, v = .slice A 0 0 ∧ l = []) ∨ w.ownsRow B 3 1 v l.length (l.map (Value.int .i64))
  | .vals l => (∃ A, v = .slice A 0 0 ∧ l = []) ∨ ∃ xs, w.ownsRow B 27 2 v l.length xs ∧ ElV S w xs l
/-- The same, the elements said of the world ahead. -/
def OwnN (S : Sc) (w w' : World) (B : Nat) (v : Value) : Row → Prop
  | .ints l => (∃ A, v = .slice A 0 0 ∧ l = []) ∨ w'.ownsRow B 3 1 v l.length (l.map (Value.int .i64))
  | .vals l => (∃ A, v = .slice A 0 0 ∧ l = []) ∨ ∃ xs, w'.ownsRow B 27 2 v l.length xs ∧ ElV S w xs l
structure Env (S : Sc) (B : Nat) (ρ : Nat → Nat) (tm : Nat → D) (bv : Nat → Option BoxC) (ov : Nat → Option Row) (a : Act) (w : World) : Prop where
  base : ∀ b, S.bad b → b < w.heap.size
  tm : ∀ i, RepD S w ρ (a.tmps.getD i undef) (tm i)
  bx : ∀ t b, bv t = some b → S.bad (ρ t) ∧ ∃ arr, w.heap[ρ t]? = some (.cells arr b.ty (0, 0)) ∧ All2 (RepC S w) arr.toList b.cs
  ow : ∀ t r, ov t = some r → OwnR S w B (S.val t) r ∧ ∀ b, ownB (S.val t) = some b → S.bad b
  size : B ≤ w.heap.size
/-- What an operation leaves. -/
def Step (S : Sc) (B : Nat) (ρ : Nat → Nat) (bv : Nat → Option BoxC) (ov : Nat → Option Row) (w : World) (dst : Option Nat) : Eff → D → Value → World → Prop
  | .none, d, v, w' => Below w.heap.size w w' ∧ RepD S w' ρ v d
  | .new b, d, v, w' => ∃ t arr, dst = some t ∧ d = .box t 0 ∧ v = .pointer (some ⟨w.heap.size, 0, none⟩) ∧ w' = w.alloc (.cells arr b.ty) ∧ All2 (RepC S w) arr.toList b.cs
  | .put t b, d, v, w' => ∃ arr old c, bv t = some c ∧ d = .any ∧ w.heap[ρ t]? = some (.cells old b.ty (0, 0)) ∧ w' = w.setRow (ρ t) arr ∧ All2 (RepC S w) arr.toList b.cs
  | .app old r, d, v, w' => ∃ t, dst = some t ∧ d = .one (.ce (.own t)) ∧ (∀ u, old = some u → ∃ q, ov u = some q) ∧ OwnN S w w' B v r ∧ (∃ A n c, v = .slice A n c) ∧ w.grownBy w' (old.bind fun u => ownB (S.val u)) ∧ ∀ b, ownB v = some b → w.heap.size ≤ b ∧ b < w'.heap.size ∨ ∃ u, old = some u ∧ ownB (S.val u) = some b
  | .set t r, d, v, w' => ∃ q, ov t = some q ∧ d = .any ∧ OwnR S w' B (S.val t) r ∧ w.grownBy w' (ownB (S.val t)) ∧ w'.heap.size = w.heap.size
/-- A call that makes nothing ends so. -/
def Dies (w : World) (e : Ending) (w' : World) : Prop := (∃ u pv, e = .panicked [{ v := .iface u pv, recovered := false }]) ∧ Below w.heap.size w w'
def Post (S : Sc) (w : World) : Out → Ending → World → Prop
  | .ret d, e, w' => (∃ v, e = .returned v ∧ RepD S w' id v d) ∧ Below w.heap.size w w'
  | .dies, e, w' => Dies w e w'
structure Good (f : Nat) (sp : Spec) : Prop where
  fn : ∃ fn, Try.prog.funcs[f]? = some fn ∧ (fn.name == "runtime.NumGoroutine") = false ∧ fn.body.isSome = true
  calls : ∀ ds k r, sp ds k = some r → ∃ out, k out = some r ∧ (∀ k', sp ds k' = k' out) ∧ ∀ (S : Sc) (w : World) (args : Array Value), (∀ b, S.bad b → b < w.heap.size) → All2 (Rep1 S w) args.toList ds → Calls Try.prog f args w (Post S w out)
def Ok (Γ : Ctx) : Prop := ∀ p ∈ Γ.fs, Good p.1 p.2
theorem lookup_mem' {α : Type} : ∀ {Γ : List (Nat × α)} {f : Nat} {s : α}, Γ.lookup f = some s → (f, s) ∈ Γ
  | [], f, s, h => by cases h
  | (x, y) :: Γ, f, s, h => by
    rw [List.lookup_cons] at h
    split at h
    · rename_i he
      have he := beq_iff_eq.1 he
      injection h with h
      subst h; subst he
      exact List.mem_cons_self
    · exact List.mem_cons_of_mem _ (lookup_mem' h)
theorem wp_val {o : Oper} {a : Act} {w w' : World} {v : Value} {K : Act → World → Prop} {Q : Exit → Act → World → Prop} (h : (execOp a.eval o).run Try.prog w = .ok (.value v) w') (hk : K (a.put o.dst v) w') : o.wp Try.prog a w K Q := by
  unfold Oper.wp; rw [h]; exact hk
theorem wp_skp {o : Oper} {a : Act} {w w' : World} {K : Act → World → Prop} {Q : Exit → Act → World → Prop} (h : (execOp a.eval o).run Try.prog w = .ok .skip w') (hk : K (a.put o.dst undef) w') : o.wp Try.prog a w K Q := by
  unfold Oper.wp; rw [h]; exact hk
section
variable {S : Sc} {ρ : Nat → Nat} {tm : Nat → D} {bv : Nat → Option BoxC} {ov : Nat → Option Row} {B : Nat} {a : Act} {w : World}
theorem Env.ev (h : Env S B ρ tm bv ov a w) (x : Operand) : RepD S w ρ (a.eval x) (evD tm x) := by
  cases x with
  | tmp t => exact h.tm t
  | const v =>
    cases v with
    | slice A n c =>
      match A, n, c with
      | none, 0, 0 => exact ⟨⟨none, 0, rfl, Nat.le_refl _, by simp, fun h => absurd h (by simp)⟩, fun _ => ⟨none, 0, rfl⟩⟩
      | some _, _, _ => trivial
      | none, _ + 1, _ => trivial
      | none, 0, _ + 1 => trivial
    | _ => first | trivial | exact rfl
  | global g => trivial
  | func f => trivial
theorem Env.num_ (h : Env S B ρ tm bv ov a w) {x : Operand} {k : IntKind} {n : Int} (e : evD tm x = .one (.ce (.int k n))) : a.eval x = .int k n := by
  have := h.ev x; rw [e] at this; exact this
theorem Env.bo_ (h : Env S B ρ tm bv ov a w) {x : Operand} {b : Bool} (e : evD tm x = .one (.ce (.bool b))) : a.eval x = .bool b := by
  have := h.ev x; rw [e] at this; exact this
theorem Env.box_ (h : Env S B ρ tm bv ov a w) {x : Operand} {t off : Nat} (e : evD tm x = .box t off) : a.eval x = .pointer (some ⟨ρ t, off, none⟩) := by
  have := h.ev x; rw [e] at this; exact this
theorem Env.one_ (h : Env S B ρ tm bv ov a w) {x : Operand} {d : D1} (e : evD tm x = .one d) : Rep1 S w (a.eval x) d := by
  have := h.ev x; rw [e] at this; exact this
/-! ### Builds -/
theorem foldl_set (new : List Value) : ∀ (off i : Nat) (cs : Array Value), off + i + new.length ≤ cs.size → ((new.zipIdx i).foldl (fun cs (c, j) => cs.setIfInBounds (off + j) c) cs).toList = cs.toList.take (off + i) ++ new ++ cs.toList.drop (off + i + new.length) := by
  induction new with
  | nil => intro off i cs h; simp
  | cons v r ih =>
    intro off i cs h
    simp only [List.length_cons] at h
    rw [List.zipIdx_cons, List.foldl_cons]
    rw [ih off (i + 1) _ (by simp; omega)]
    apply List.ext_getElem?
    intro k
    have m1 : min (off + (i + 1)) cs.size = off + (i + 1) := by omega
    have m2 : min (off + i) cs.size = off + i := by omega
    simp only [Array.toList_setIfInBounds, List.getElem?_append, List.length_take, List.length_set, Array.length_toList, List.length_append, List.length_cons, List.getElem?_take, List.getElem?_drop, List.getElem?_set, m1, m2]
    by_cases h1 : k < off + i
    · rw [if_pos (show k < off + (i + 1) + r.length by omega), if_pos (show k < off + (i + 1) by omega), if_pos (show k < off + (i + 1) by omega), if_neg (show ¬ off + i = k by omega), if_pos (show k < off + i + (r.length + 1) by omega), if_pos h1, if_pos h1]
    · by_cases h2 : k = off + i
      · subst h2
        rw [if_pos (show off + i < off + (i + 1) + r.length by omega), if_pos (show off + i < off + (i + 1) by omega), if_pos (show off + i < off + (i + 1) by omega), if_pos rfl, if_pos (show off + i < off + i + (r.length + 1) by omega), if_neg h1, if_pos (show off + i < cs.size by omega)]
        simp
      · by_cases h3 : k < off + i + (r.length + 1)
        · rw [if_pos (show k < off + (i + 1) + r.length by omega), if_neg (show ¬ k < off + (i + 1) by omega), if_pos h3, if_neg h1, show k - (off + i) = (k - (off + (i + 1))) + 1 by omega]
          simp
        · rw [if_neg (show ¬ k < off + (i + 1) + r.length by omega), if_neg h3]
          have e1 : off + (i + 1) + r.length + (k - (off + (i + 1) + r.length)) = k := by omega
          have e2 : off + i + (r.length + 1) + (k - (off + i + (r.length + 1))) = k := by omega
          rw [e1, e2, if_neg (by omega)]
theorem splice_rep {S : Sc} {w : World} {cs : Array Value} {ds : List Ce} {new : Array Value} {nd : List Ce} (h : All2 (RepC S w) cs.toList ds) (hn : All2 (RepC S w) new.toList nd) (off : Nat) (hl : off + nd.length ≤ ds.length) :
    All2 (RepC S w) (new.zipIdx.foldl (fun cs (c, j) => cs.setIfInBounds (off + j) c) cs).toList (splice ds off nd) := by
  have e1 := h.len
  have e2 := hn.len
  simp only [Array.length_toList] at e1 e2
  have e : new.zipIdx.foldl (fun cs (c, j) => cs.setIfInBounds (off + j) c) cs = (new.toList.zipIdx 0).foldl (fun cs (c, j) => cs.setIfInBounds (off + j) c) cs := by
    rw [← Array.foldl_toList, Array.toList_zipIdx]
  rw [e, foldl_set new.toList off 0 cs (by simp; omega)]
  unfold splice
  simp only [Nat.add_zero, Array.length_toList]
  rw [e2]
  exact ((h.take off).app hn).app (h.drop _)
theorem fill_rep {S : Sc} {w : World} (place : Nat → Option (Nat × Nat)) : ∀ (parts : List (Nat × Value)) (ps : List (Nat × D)) (cs : Array Value) (ds ds' : List Ce), All2 (RepC S w) cs.toList ds → All2 (fun (p : Nat × Value) (q : Nat × D) => p.1 = q.1 ∧ RepD S w ρ p.2 q.2) parts ps → fillC place ds ps = some ds' →
    ∃ cs', Instr.fill place cs parts = some cs' ∧ All2 (RepC S w) cs'.toList ds'
  | [], [], cs, ds, ds', h, _, e => by
    have e := Option.some.inj e
    subst e
    exact ⟨cs, rfl, h⟩
  | (i, v) :: parts, (j, d) :: ps, cs, ds, ds', h, ⟨⟨h1, h2⟩, h3⟩, e => by
    obtain rfl : i = j := h1
    cases d with
    | one d =>
      unfold fillC at e
      split at e
      · rename_i off sz hp
        split at e
        · rename_i hc
          obtain ⟨hc1, hc2⟩ := hc
          have hv : All2 (RepC S w) v.cells.toList d.cells := Rep1.cells h2
          have l1 := hv.len
          have l2 := h.len
          simp only [Array.length_toList] at l1 l2
          obtain ⟨cs', h4, h5⟩ := fill_rep place parts ps _ _ _ (splice_rep h hv off (by omega)) h3 e
          refine ⟨cs', ?_, h5⟩
          unfold Instr.fill
          rw [hp]
          simp only
          rw [if_neg (by simp; omega)]
          exact h4
        · cases e
      · cases e
    | _ => cases e
  | [], _ :: _, _, _, _, _, h, _ => h.elim
  | _ :: _, [], _, _, _, _, h, _ => h.elim
theorem parts_rep (h : Env S B ρ tm bv ov a w) : ∀ l : List (Nat × Operand), All2 (fun (p : Nat × Value) (q : Nat × D) => p.1 = q.1 ∧ RepD S w ρ p.2 q.2) (l.map fun p => (p.1, a.eval p.2)) (l.map fun p => (p.1, evD tm p.2))
  | [] => trivial
  | p :: l => ⟨⟨rfl, h.ev p.2⟩, parts_rep h l⟩
theorem args_rep (h : Env S B ρ tm bv ov a w) : ∀ (l : List Operand) (ds : List D1), ones (l.map (evD tm)) = some ds → All2 (Rep1 S w) (l.map a.eval) ds
  | [], ds, e => by
    have e := Option.some.inj e
    subst e; trivial
  | p :: l, ds, e => by
    simp only [List.map_cons] at e ⊢
    cases hp : evD tm p with
    | one d =>
      rw [hp] at e
      obtain ⟨r, hr, rfl⟩ := Option.map_eq_some_iff.1 e
      exact ⟨h.one_ hp, args_rep h l r hr⟩
    | _ => rw [hp] at e; cases e
end
section
variable {S : Sc} {ρ : Nat → Nat} {tm : Nat → D} {bv : Nat → Option BoxC} {ov : Nat → Option Row} {B : Nat} {a : Act} {w : World}
theorem mv_below (h : ∀ b, S.bad b → b < w.heap.size) {w' : World} (hb : Below w.heap.size w w') : Mv S S w w' := ⟨hb.size, fun b hb' _ => hb.block b hb', fun _ _ h => h, fun _ _ => rfl⟩
theorem mv_alloc (o : Obj) : Mv S S w (w.alloc o) := ⟨by simp, fun b hb _ => Below.heap_alloc w o b hb, fun _ _ h => h, fun _ _ => rfl⟩
theorem getD_get {α : Type} (l : List α) (d : α) (i : Int) (h0 : 0 ≤ i) (h1 : i < l.length) : l[i.toNat]? = some (l.getD i.toNat d) := by
  rw [List.getD_eq_getElem?_getD, List.getElem?_eq_getElem (by omega)]; rfl
/-! ### Splits -/
theorem splitB_is {b : Bool} {k : Bool → Res} {r : Out} (h : splitB b k = some r) : k b = some r := by cases b <;> exact h
theorem splitC_is {c : Ce} {k : Ce → Res} {r : Out} (h : splitC c k = some r) : k c = some r := by
  cases c with
  | bool b => exact splitB_is (k := fun b => k (.bool b)) h
  | _ => exact h
theorem split1_is {d : D1} {k : D1 → Res} {r : Out} (h : split1 d k = some r) : k d = some r := by
  cases d with
  | ce c => exact splitC_is (k := fun c => k (.ce c)) h
  | agg _ => exact h
theorem splitL_is : ∀ {l : List D1} {k : List D1 → Res} {r : Out}, splitL l k = some r → k l = some r
  | [], k, r, h => h
  | d :: l, k, r, h => splitL_is (k := fun r => k (d :: r)) (split1_is (k := fun d => splitL l fun r => k (d :: r)) h)
theorem splitD_is {d : D} {k : D → Res} {r : Out} (h : splitD d k = some r) : k d = some r := by
  cases d with
  | one d => exact split1_is (k := fun d => k (.one d)) h
  | tup l => exact splitL_is (k := fun l => k (.tup l)) h
  | _ => exact h
/-! ### Loads, parts -/
theorem box_cells (h : Env S B ρ tm bv ov a w) {t : Nat} {b : BoxC} (hb : bv t = some b) {off n : Nat} (hl : off + n ≤ b.cs.length) :
    ∃ vs : List Value, vs.length = n ∧ All2 (RepC S w) vs ((b.cs.drop off).take n) ∧ ∀ j v, vs[j]? = some v → w.cell? ((⟨ρ t, off, none⟩ : Addr).add j) = some v := by
  obtain ⟨_, arr, h1, h2⟩ := h.bx t b hb
  have e := h2.len
  simp only [Array.length_toList] at e
  refine ⟨(arr.toList.drop off).take n, by simp; omega, (h2.drop off).take n, fun j v hv => ?_⟩
  have hadd : (⟨ρ t, off, none⟩ : Addr).add j = ⟨ρ t, off + j, none⟩ := by unfold Addr.add; split <;> simp_all
  rw [hadd, cell_of_row w (ρ t) (off + j) arr b.ty (0, 0) h1]
  rw [List.getElem?_take] at hv
  split at hv
  · rw [List.getElem?_drop] at hv; simpa using hv
  · cases hv
theorem run_load_agg {t : Nat} {z : List Ce} (hz : tyZ t = some z) (hf : (tyF t).isSome = true) (ad : Addr) (vs : List Value) (hl : vs.length = z.length) (hc : ∀ j v, vs[j]? = some v → w.cell? (ad.add j) = some v) :
    (loadVar t ad).run Try.prog w = .ok (.agg vs.toArray) w := by
  have h1 := run_loadCells_list (P := Try.prog) w ad vs hc
  rw [hl] at h1
  simp [loadVar, run_agg w hz, hf, run_size w hz, h1, Result.andThen]
theorem run_load_one {t : Nat} {z : List Ce} (hz : tyZ t = some z) (hf : (tyF t).isSome = false) (ad : Addr) (v : Value) (hc : w.cell? ad = some v) :
    (loadVar t ad).run Try.prog w = .ok v w := by
  simp [loadVar, run_agg w hz, hf, hc, Result.andThen]
theorem z_one {t : Nat} {z : List Ce} (hz : tyZ t = some z) (hf : (tyF t).isSome = false) : z.length = 1 := by
  unfold tyZ at hz
  split at hz <;> first | (cases hz; done) | (injection hz with hz; subst hz; first | rfl | (exfalso; revert hf; decide))
theorem load_box (h : Env S B ρ tm bv ov a w) {t ty off : Nat} {b : BoxC} {z : List Ce} {d : D} (hb : bv t = some b) (hz : tyZ ty = some z) (hl : off + z.length ≤ b.cs.length) (hd : part ty b.cs off = some d) :
    ∃ v, (loadVar ty ⟨ρ t, off, none⟩).run Try.prog w = .ok v w ∧ RepD S w ρ v d := by
  obtain ⟨vs, h1, h2, h3⟩ := box_cells h hb hl
  unfold part at hd
  rw [hz] at hd
  cases hf : (tyF ty).isSome with
  | true =>
    rw [hf] at hd
    have hd := Option.some.inj hd
    subst hd
    exact ⟨_, run_load_agg hz hf _ vs h1 h3, vs.toArray, rfl, h2⟩
  | false =>
    rw [hf] at hd
    obtain ⟨c, hc, rfl⟩ := Option.map_eq_some_iff.1 hd
    have hz1 := z_one hz hf
    have : ((b.cs.drop off).take z.length)[0]? = some c := by rw [List.getElem?_take, if_pos (by omega), List.getElem?_drop]; simpa using hc
    obtain ⟨v, hv, hr⟩ := h2.get 0 c this
    exact ⟨v, run_load_one hz hf _ v (by simpa [Addr.add] using h3 0 v hv), hr⟩
theorem load_eli {v : Value} {l : List Int} {i : Int} (h : RepD S w ρ v (.eli l i)) : ∃ ad, v = .pointer (some ad) ∧ (loadVar 3 ad).run Try.prog w = .ok (.int .i64 (rd l i)) w := by
  obtain ⟨ad, h0, h1, rfl, _, _, hc⟩ := h
  exact ⟨_, rfl, run_load_one (z := [i0]) rfl rfl _ _ (hc _ _ (getD_get l 0 i h0 h1))⟩
theorem load_elr {v : Value} {l : List (List Int)} {i : Int} (h : RepD S w ρ v (.elr l i)) : ∃ ad u, v = .pointer (some ad) ∧ (loadVar 22 ad).run Try.prog w = .ok u w ∧ SlI S w u (rdR l i) := by
  obtain ⟨ad, h0, h1, rfl, _, _, hc⟩ := h
  obtain ⟨u, h2, h3⟩ := hc _ _ (getD_get l [] i h0 h1)
  exact ⟨_, u, rfl, run_load_one (z := [.ints true []]) rfl rfl _ _ h2, h3⟩
theorem load_elv {v : Value} {l : List S27} {i : Int} {off : Nat} (h : RepD S w ρ v (.elv l i off)) :
    ∃ (ad : Addr) (u : Value), v = .pointer (some (ad.add (i.toNat * 2 + off))) ∧ ad.spot = none ∧ w.cell? (ad.add (i.toNat * 2)) = some (.int .i64 (rd_T27 l i).f0) ∧ w.cell? (ad.add (i.toNat * 2 + 1)) = some u ∧ SlI S w u (rd_T27 l i).f1 := by
  obtain ⟨ad, h0, h1, rfl, hsp, _, hc⟩ := h
  obtain ⟨h2, u, h3, h4⟩ := hc _ _ (getD_get l z27 i h0 h1)
  exact ⟨ad, u, rfl, hsp, h2, h3, h4⟩
theorem part_rep {arr : Array Value} {cs : List Ce} (h : All2 (RepC S w) arr.toList cs) {ft off : Nat} {d : D} (hd : part ft cs off = some d) :
    ∃ v, (Go.part ft arr off).run Try.prog w = .ok v w ∧ RepD S w ρ v d := by
  unfold part at hd
  cases hz : tyZ ft with
  | none => rw [hz] at hd; cases hd
  | some z =>
    rw [hz] at hd
    cases hf : (tyF ft).isSome with
    | true =>
      rw [hf] at hd
      have hd := Option.some.inj hd
      subst hd
      refine ⟨.agg (arr.extract off (off + z.length)), by simp [Go.part, run_agg w hz, hf, run_size w hz, Result.andThen], _, rfl, ?_⟩
      rw [Array.toList_extract, List.extract_eq_take_drop, show off + z.length - off = z.length by omega]
      exact (h.drop off).take _
    | false =>
      rw [hf] at hd
      obtain ⟨c, hc, rfl⟩ := Option.map_eq_some_iff.1 hd
      obtain ⟨v, hv, hr⟩ := h.get off c hc
      exact ⟨v, by simp [Go.part, run_agg w hz, hf, Result.andThen, show arr[off]? = some v by simpa using hv], hr⟩
/-! ### Stores -/
theorem setRow_same (w : World) (g : Nat) (cs : Array Value) (t : TypeId) (fr : Nat × Nat) (hg : w.heap[g]? = some (.cells cs t fr)) : w.setRow g cs = w := by
  have hlt : g < w.heap.size := (Array.getElem?_eq_some_iff.1 hg).1
  have hv : w.heap[g] = .cells cs t fr := (Array.getElem?_eq_some_iff.1 hg).2
  cases w with
  | mk heap tape drawn os output =>
    unfold World.setRow
    congr 1
    apply Array.ext
    · simp
    · intro k h1 h2
      simp only [Array.getElem_modify]
      split
      · rename_i hk; subst hk; simp at hv; simp [hv]
      · rfl
theorem run_storeAt (g : Nat) (t : TypeId) (off : Nat) : ∀ (vs : List Value) (i : Nat) (cur : Array Value) (w : World), w.heap[g]? = some (.cells cur t (0, 0)) → off + i + vs.length ≤ cur.size → (∀ v ∈ vs, v.oneCell' = true) →
    (storeCells ⟨g, off, none⟩ vs i).run Try.prog w = .ok () (w.setRow g ((vs.zipIdx i).foldl (fun cs (c, j) => cs.setIfInBounds (off + j) c) cur))
  | [], i, cur, w, hg, hl, _ => by simp [storeCells, setRow_same w g cur t _ hg]
  | v :: rest, i, cur, w, hg, hl, h1 => by
    simp only [List.length_cons] at hl
    have hi : off + i < cur.size := by omega
    have hadd : (⟨g, off, none⟩ : Addr).add i = ⟨g, off + i, none⟩ := by unfold Addr.add; split <;> simp_all
    have hcell : w.cell? ⟨g, off + i, none⟩ = some cur[off + i] := by simp [World.cell?, hg, hi]
    have hfro : w.frozen? ⟨g, off + i, none⟩ = false := by simp [World.frozen?, hg]
    have hst : (store ((⟨g, off, none⟩ : Addr).add i) v).run Try.prog w = .ok () (w.setRow g (cur.setIfInBounds (off + i) v)) := by
      rw [hadd, run_store Try.prog w _ v _ (h1 v (by simp)), hcell]
      simp [hfro, setCell_eq_setRow w g (off + i) cur t (0, 0) v hg]
    have ih := run_storeAt g t off rest (i + 1) (cur.setIfInBounds (off + i) v) (w.setRow g (cur.setIfInBounds (off + i) v)) (setRow_heap w g cur _ t _ hg) (by simp; omega) (fun x hx => h1 x (by simp [hx]))
    simp only [storeCells, Sem.run_bind, hst, Result.andThen_ok, ih, setRow_setRow, List.zipIdx_cons, List.foldl_cons]
theorem all2_one {l : List Value} {m : List Ce} (h : All2 (RepC S w) l m) : ∀ v ∈ l, v.oneCell' = true := by
  intro v hv
  obtain ⟨i, hi⟩ := List.getElem?_of_mem hv
  have hl := h.len
  have hi' := (List.getElem?_eq_some_iff.1 hi).1
  obtain ⟨x, hx, hr⟩ := h.get i (m[i]'(by omega)) (List.getElem?_eq_getElem (by omega))
  rw [hi] at hx
  obtain rfl := Option.some.inj hx
  exact hr.one
theorem store_box (h : Env S B ρ tm bv ov a w) {t ty off : Nat} {b : BoxC} {z : List Ce} {v : Value} {d : D1} (hb : bv t = some b) (hz : tyZ ty = some z) (hv : Rep1 S w v d) (h1 : d.cells.length = z.length) (h2 : off + z.length ≤ b.cs.length) :
    ∃ arr old, w.heap[ρ t]? = some (.cells old b.ty (0, 0)) ∧ (storeVar ty ⟨ρ t, off, none⟩ v).run Try.prog w = .ok () (w.setRow (ρ t) arr) ∧ All2 (RepC S w) arr.toList (splice b.cs off d.cells) := by
  obtain ⟨_, old, h3, h4⟩ := h.bx t b hb
  have hc := Rep1.cells hv
  have l1 := hc.len
  have l2 := h4.len
  simp only [Array.length_toList] at l1 l2
  refine ⟨_, old, h3, ?_, splice_rep h4 hc off (by omega)⟩
  have := run_storeAt (ρ t) b.ty off v.cells.toList 0 old w h3 (by simp; omega) (all2_one hc)
  have e : v.cells.zipIdx.foldl (fun cs (c, j) => cs.setIfInBounds (off + j) c) old = (v.cells.toList.zipIdx 0).foldl (fun cs (c, j) => cs.setIfInBounds (off + j) c) old := by
    rw [← Array.foldl_toList, Array.toList_zipIdx]
  rw [e, ← this]
  simp only [storeVar, Sem.run_bind, run_size w hz, Result.andThen_ok]
  rw [if_neg (by omega)]
end
section
variable {S : Sc} {ρ : Nat → Nat} {tm : Nat → D} {bv : Nat → Option BoxC} {ov : Nat → Option Row} {B : Nat} {a : Act} {w : World} {o : Oper} {k : D → Eff → Res} {kd : Res} {r : Out} {K : Act → World → Prop} {Q : Exit → Act → World → Prop} {Γ : Ctx}
def KOk (S : Sc) (B : Nat) (ρ : Nat → Nat) (bv : Nat → Option BoxC) (ov : Nat → Option Row) (a : Act) (w : World) (o : Oper) (k : D → Eff → Res) (r : Out) (K : Act → World → Prop) : Prop :=
  ∀ d eff v w', k d eff = some r → Step S B ρ bv ov w o.dst eff d v w' → K (a.put o.dst v) w'
theorem op_val (hK : KOk S B ρ bv ov a w o k r K) {v : Value} {d : D} (hk : k d .none = some r) (hd : RepD S w ρ v d) (h : (execOp a.eval o).run Try.prog w = .ok (.value v) w) : o.wp Try.prog a w K Q :=
  wp_val h (hK d .none v w hk ⟨Below.refl _ _, hd⟩)
theorem u4 : Try.prog.underlying 4 = some .bool := by kernel_rfl
theorem equalIn_bool (d : Nat) (x y : Bool) (w : World) : (Op.equalIn (d + 1) 4 (.bool x) (.bool y)).run Try.prog w = .ok (x == y) w := by
  simp only [Op.equalIn, Sem.run_bind, run_underlying u4, Result.andThen_ok]
  rfl
theorem equal_bool (x y : Bool) (w : World) : (Op.equal 4 (.bool x) (.bool y)).run Try.prog w = .ok (x == y) w := equalIn_bool 9999 x y w
theorem op_bin (h : Env S B ρ tm bv ov a w) (op : BinOp) (t : TypeId) (x y : Operand) (ty : TypeId) (ho : o.op = .binOp op t x y ty) (hd : denOp Γ tm bv ov o.dst (.binOp op t x y ty) k kd = some r) (hK : KOk S B ρ bv ov a w o k r K) : o.wp Try.prog a w K Q := by
  simp only [denOp] at hd
  unfold denBin at hd
  split at hd
  · rename_i na nb ex ey
    have vx := h.num_ ex
    have vy := h.num_ ey
    cases op <;> simp only at hd <;> try (cases hd; done)
    case add => exact op_val hK hd rfl (by simp [execOp, ho, vx, vy, eqGuard, binOp, Op.intArith, i64_w, Result.andThen])
    case sub => exact op_val hK hd rfl (by simp [execOp, ho, vx, vy, eqGuard, binOp, Op.intArith, i64_w, Result.andThen])
    case mul => exact op_val hK hd rfl (by simp [execOp, ho, vx, vy, eqGuard, binOp, Op.intArith, i64_w, Result.andThen])
    case quo =>
      split at hd
      · cases hd
      · rename_i hb
        exact op_val hK hd rfl (by simp [execOp, ho, vx, vy, eqGuard, binOp, Op.intDiv, hb, i64_w, Result.andThen])
    case rem =>
      split at hd
      · cases hd
      · rename_i hb
        exact op_val hK hd rfl (by simp [execOp, ho, vx, vy, eqGuard, binOp, Op.intDiv, hb, Result.andThen])
    case eql => split at hd <;> rename_i hc <;> exact op_val hK hd rfl (by simp [execOp, ho, vx, vy, eqGuard, binOp, Op.intCmp, hc, Result.andThen])
    case neq => split at hd <;> rename_i hc <;> exact op_val hK hd rfl (by simp [execOp, ho, vx, vy, eqGuard, binOp, Op.intCmp, hc, Result.andThen])
    case lss => split at hd <;> rename_i hc <;> exact op_val hK hd rfl (by simp [execOp, ho, vx, vy, eqGuard, binOp, Op.intCmp, hc, Result.andThen] <;> omega)
    case leq => split at hd <;> rename_i hc <;> exact op_val hK hd rfl (by simp [execOp, ho, vx, vy, eqGuard, binOp, Op.intCmp, hc, Result.andThen] <;> omega)
    case gtr => split at hd <;> rename_i hc <;> exact op_val hK hd rfl (by simp [execOp, ho, vx, vy, eqGuard, binOp, Op.intCmp, Result.andThen] <;> omega)
    case geq => split at hd <;> rename_i hc <;> exact op_val hK hd rfl (by simp [execOp, ho, vx, vy, eqGuard, binOp, Op.intCmp, Result.andThen] <;> omega)
  · rename_i ba bb ex ey
    have vx := h.bo_ ex
    have vy := h.bo_ ey
    cases op <;> simp only at hd <;> try (cases hd; done)
    all_goals
      split at hd
      case isFalse => cases hd
      case isTrue ht =>
      subst ht
      exact op_val hK (splitB_is (k := fun b => k (bo b) .none) hd) rfl (by simp [execOp, ho, vx, vy, eqGuard, binOp, equal_bool, Result.andThen, bne])
  · cases hd
theorem op_move (h : Env S B ρ tm bv ov a w) (x : Operand) (ho : o.op = .move x ∨ o.op = .assign x) (hd : k (evD tm x) .none = some r) (hK : KOk S B ρ bv ov a w o k r K) : o.wp Try.prog a w K Q := by
  refine op_val hK hd (h.ev x) ?_
  rcases ho with ho | ho <;> simp [execOp, ho]
theorem op_pick (h : Env S B ρ tm bv ov a w) (c x y : Operand) (ho : o.op = .pick c x y) (hd : denOp Γ tm bv ov o.dst (.pick c x y) k kd = some r) (hK : KOk S B ρ bv ov a w o k r K) : o.wp Try.prog a w K Q := by
  simp only [denOp] at hd
  split at hd
  · rename_i b ec
    have vc := h.bo_ ec
    split at hd
    · rename_i hb; subst hb; exact op_val hK hd (h.ev x) (by simp [execOp, ho, vc, asBool, Result.andThen])
    · rename_i hb; obtain rfl := Bool.eq_false_iff.mpr hb; exact op_val hK hd (h.ev y) (by simp [execOp, ho, vc, asBool, Result.andThen])
  · cases hd
theorem op_alloc (t : TypeId) (ho : o.op = .alloc t) (hd : denOp Γ tm bv ov o.dst (.alloc t) k kd = some r) (hK : KOk S B ρ bv ov a w o k r K) : o.wp Try.prog a w K Q := by
  simp only [denOp] at hd
  split at hd
  · rename_i z d hz ed
    have hd : k (.box d 0) (.new ⟨t, z⟩) = some r := hd
    refine wp_val (w' := w.alloc (.cells (zvT t z).cells t)) (v := .pointer (some ⟨w.heap.size, 0, none⟩)) ?_ (hK _ _ _ _ hd ⟨d, (zvT t z).cells, ed, rfl, rfl, rfl, zero_rep S w hz⟩)
    simp [execOp, ho, Instr.alloc, run_zero w hz, newVar, newRow, Result.andThen]
  · cases hd
theorem op_box (h : Env S B ρ tm bv ov a w) (t : TypeId) (x : Operand) (ho : o.op = .box t x) (hd : denOp Γ tm bv ov o.dst (.box t x) k kd = some r) (hK : KOk S B ρ bv ov a w o k r K) : o.wp Try.prog a w K Q := by
  simp only [denOp] at hd
  split at hd
  · rename_i v d ev ed
    have hd : k (.box d 0) (.new ⟨t, v.cells⟩) = some r := hd
    refine wp_val (w' := w.alloc (.cells (a.eval x).cells t)) (v := .pointer (some ⟨w.heap.size, 0, none⟩)) ?_ (hK _ _ _ _ hd ⟨d, (a.eval x).cells, ed, rfl, rfl, rfl, Rep1.cells (h.one_ ev)⟩)
    simp [execOp, ho, Instr.box, newVar, newRow, Result.andThen]
  · cases hd
theorem tyF_all {t : Nat} {fs : List (Nat × Nat)} (hf : tyF t = some fs) : ∀ p ∈ fs, ∃ z, tyZ p.2 = some z := by
  unfold tyF at hf
  split at hf <;> first | (cases hf; done) | (injection hf with hf; subst hf; intro p hp; simp only [List.mem_cons, List.not_mem_nil, or_false] at hp; rcases hp with rfl | rfl | rfl | rfl | rfl | rfl <;> exact ⟨_, rfl⟩) | (injection hf with hf; subst hf; intro p hp; simp only [List.mem_cons, List.not_mem_nil, or_false] at hp; rcases hp with rfl | rfl | rfl <;> exact ⟨_, rfl⟩) | (injection hf with hf; subst hf; intro p hp; simp only [List.mem_cons, List.not_mem_nil, or_false] at hp; rcases hp with rfl | rfl <;> exact ⟨_, rfl⟩)
noncomputable def placesL (fs : List (Nat × Nat)) : List (Nat × Nat) := fs.map fun p => (p.1, ((tyZ p.2).map List.length).getD 0)
theorem placeS_eq {t : Nat} {fs : List (Nat × Nat)} (hf : tyF t = some fs) : placeS fs = fun j => (placesL fs).toArray[j]? := by
  funext j
  unfold placeS placesL
  rw [List.getElem?_toArray, List.getElem?_map]
  cases hj : fs[j]? with
  | none => rfl
  | some p =>
    obtain ⟨z, hz⟩ := tyF_all hf p (List.mem_of_getElem? hj)
    simp [hz]
theorem places_run : ∀ (fs : List (Nat × Nat)) (fields : List Field), fields.map (fun f => (f.offset, f.type)) = fs → (∀ p ∈ fs, ∃ z, tyZ p.2 = some z) → fields.mapM (fun f => (Try.prog.info? f.type).map fun i => (f.offset, i.size)) = some (placesL fs)
  | fs, [], he, _ => by subst he; rfl
  | fs, f :: fields, he, hz => by
    subst he
    obtain ⟨z, h⟩ := hz (f.offset, f.type) (by simp)
    obtain ⟨i, h1, _, h2⟩ := ty_info h
    have ih := places_run _ fields rfl (fun p hp => hz p (by simp at hp ⊢; exact Or.inr hp))
    have h : tyZ f.type = some z := h
    rw [List.mapM_cons, h1, ih]
    simp [placesL, h, h2]
theorem op_build (h : Env S B ρ tm bv ov a w) (t : TypeId) (parts : Array (Nat × Operand)) (ho : o.op = .build t parts) (hd : denOp Γ tm bv ov o.dst (.build t parts) k kd = some r) (hK : KOk S B ρ bv ov a w o k r K) : o.wp Try.prog a w K Q := by
  simp only [denOp] at hd
  split at hd
  · rename_i z fs hz hf
    split at hd
    · rename_i cs hc
      obtain ⟨fields, hu, he⟩ := ty_fields hz hf
      obtain ⟨i, hi, hi0, hi1⟩ := ty_info hz
      obtain ⟨cs', h1, h2⟩ := fill_rep (fun j => (placesL fs).toArray[j]?) (parts.toList.map fun p => (p.1, a.eval p.2)) _ (zvT t z).cells z cs (zero_rep S w hz) (parts_rep h parts.toList) (by rw [placeS_eq hf] at hc; exact hc)
      have hb : Try.prog.built t (parts.map fun p => (p.1, a.eval p.2)).toList = some cs' := by
        unfold Program.built
        rw [hi, hu]
        simp only [hi0, places_run fs fields.toList he (tyF_all hf)]
        rw [Array.toList_map]
        exact h1
      exact op_val hK hd ⟨cs', rfl, h2⟩ (by simp [execOp, ho, run_build w t _ cs' hb, Result.andThen])
    · cases hd
  · cases hd
theorem all2_map {α : Type} {S : Sc} {w : World} (f : α → Value) (g : α → Ce) (h : ∀ x, RepC S w (f x) (g x)) : ∀ l : List α, All2 (RepC S w) (l.map f) (l.map g)
  | [] => trivial
  | x :: l => ⟨h x, all2_map f g h l⟩
theorem u22 : Try.prog.underlying 22 = some (.slice 3) := by kernel_rfl
theorem u24 : Try.prog.underlying 24 = some (.slice 27) := by kernel_rfl
/-- A new row of numbers, of values. -/
theorem new_ints {arr : Array Value} {e : Nat} {l : List Int} (hS : ∀ b, S.bad b → b < w.heap.size) : ∀ {cs : List Ce}, All2 (RepC S w) arr.toList cs → toInts cs = some l → l.length ≤ 1000 → RepC S (w.alloc (.cells arr e)) (.slice (some ⟨w.heap.size, 0, none⟩) l.length l.length) (.ints true l) := by
  intro cs h hl hn
  refine ⟨⟨_, _, rfl, Nat.le_refl _, by omega, fun _ => ⟨_, rfl, rfl, fun h => absurd (hS _ h) (by simp), ?_⟩⟩, fun _ => ⟨_, _, rfl⟩⟩
  have key : ∀ (vs : List Value) (cs : List Ce) (l : List Int), All2 (RepC S w) vs cs → toInts cs = some l → ∀ (j : Nat) (x : Int), l[j]? = some x → vs[j]? = some (.int .i64 x) := by
    intro vs
    induction vs with
    | nil =>
      intro cs l h1 h2 j x hx
      cases cs with
      | nil => have h2 := Option.some.inj h2; subst h2; simp at hx
      | cons c cs => exact h1.elim
    | cons v vs ih =>
      intro cs l h1 h2 j x hx
      cases cs with
      | nil => exact h1.elim
      | cons c cs =>
        unfold toInts at h2
        split at h2
        · rename_i he; cases he
        · rename_i n r' he
          injection he with he1 he2
          subst he1; subst he2
          obtain ⟨m, hm, rfl⟩ := Option.map_eq_some_iff.1 h2
          cases j with
          | zero => have hx : n = x := by simpa using hx
                    subst hx; exact congrArg some h1.1
          | succ j => simpa using ih _ m h1.2 hm j x (by simpa using hx)
        · cases h2
  intro j x hx
  have h1 := key _ cs l h hl j x hx
  have hadd : (⟨w.heap.size, 0, none⟩ : Addr).add j = ⟨w.heap.size, j, none⟩ := by unfold Addr.add; split <;> simp_all
  rw [hadd, cell_of_row (w.alloc (.cells arr e)) w.heap.size j arr e (0, 0) (heap_alloc_new w _)]
  simpa using h1
theorem toVals_key : ∀ (n : Nat) (vs : List Value) (cs : List Ce) (l : List S27), cs.length ≤ n → All2 (RepC S w) vs cs → toVals cs = some l → ∀ (j : Nat) (x : S27), l[j]? = some x → vs[j * 2]? = some (.int .i64 x.f0) ∧ ∃ v, vs[j * 2 + 1]? = some v ∧ SlI S w v x.f1 := by
  intro n
  induction n with
  | zero =>
    intro vs cs l hn h1 h2 j x hx
    obtain rfl : cs = [] := List.eq_nil_of_length_eq_zero (by omega)
    have h2 := Option.some.inj h2; subst h2; simp at hx
  | succ n ih =>
    intro vs cs l hn h1 h2 j x hx
    unfold toVals at h2
    split at h2
    · have h2 := Option.some.inj h2; subst h2; simp at hx
    · rename_i q f1 f r' 
      obtain ⟨m, hm, rfl⟩ := Option.map_eq_some_iff.1 h2
      match vs, h1 with
      | v1 :: v2 :: vs, ⟨g1, g2, g3⟩ =>
        cases j with
        | zero =>
          obtain rfl : (⟨q, f⟩ : S27) = x := by simpa using hx
          exact ⟨congrArg some g1, v2, rfl, g2.1⟩
        | succ j =>
          have := ih vs r' m (by simp at hn; omega) g3 hm j x (by simpa using hx)
          simpa [Nat.succ_mul] using this
    · cases h2
theorem toInts_eq : ∀ {vs : List Value} {cs : List Ce} {l : List Int}, All2 (RepC S w) vs cs → toInts cs = some l → vs = l.map (Value.int .i64)
  | [], [], l, _, h => by have h := Option.some.inj h; subst h; rfl
  | v :: vs, c :: cs, l, h1, h => by
    unfold toInts at h
    split at h
    · rename_i he; cases he
    · rename_i n r' he
      injection he with he1 he2
      subst he1; subst he2
      obtain ⟨m, hm, rfl⟩ := Option.map_eq_some_iff.1 h
      have := toInts_eq h1.2 hm
      rw [this, show v = .int .i64 n from h1.1]
      rfl
    · cases h
  | [], _ :: _, _, h, _ => h.elim
  | _ :: _, [], _, h, _ => h.elim
theorem new_vals {arr : Array Value} {e : Nat} {l : List S27} (hS : ∀ b, S.bad b → b < w.heap.size) : ∀ {cs : List Ce}, All2 (RepC S w) arr.toList cs → toVals cs = some l → l.length ≤ 1000 → RepC S (w.alloc (.cells arr e)) (.slice (some ⟨w.heap.size, 0, none⟩) l.length l.length) (.vals true l) := by
  intro cs h hl hn
  refine ⟨⟨_, _, rfl, Nat.le_refl _, by omega, fun _ => ⟨_, rfl, rfl, fun h => absurd (hS _ h) (by simp), ?_⟩⟩, fun _ => ⟨_, _, rfl⟩⟩
  intro j x hx
  obtain ⟨h1, v, h2, h3⟩ := toVals_key _ _ cs l (Nat.le_refl _) h hl j x hx
  have hadd : ∀ j, (⟨w.heap.size, 0, none⟩ : Addr).add j = ⟨w.heap.size, j, none⟩ := by intro j; unfold Addr.add; split <;> simp_all
  have hc : ∀ j, (w.alloc (.cells arr e)).cell? ((⟨w.heap.size, 0, none⟩ : Addr).add j) = arr[j]? := fun j => by
    rw [hadd, cell_of_row (w.alloc (.cells arr e)) w.heap.size j arr e (0, 0) (heap_alloc_new w _)]
  exact ⟨(hc _).trans (by simpa using h1), v, (hc _).trans (by simpa using h2), h3.mv (mv_alloc _)⟩
theorem toInts_len : ∀ {cs : List Ce} {l : List Int}, toInts cs = some l → l.length = cs.length
  | [], l, h => by have h := Option.some.inj h; subst h; rfl
  | c :: cs, l, h => by
    unfold toInts at h
    split at h
    · rename_i he; cases he
    · rename_i n r' he
      injection he with he1 he2
      subst he2
      obtain ⟨m, hm, rfl⟩ := Option.map_eq_some_iff.1 h
      simp [toInts_len hm]
    · cases h
theorem toVals_len : ∀ (n : Nat) {cs : List Ce} {l : List S27}, cs.length ≤ n → toVals cs = some l → l.length * 2 = cs.length
  | 0, cs, l, hn, h => by
    obtain rfl : cs = [] := List.eq_nil_of_length_eq_zero (by omega)
    have h := Option.some.inj h; subst h; rfl
  | n + 1, cs, l, hn, h => by
    unfold toVals at h
    split at h
    · have h := Option.some.inj h; subst h; rfl
    · obtain ⟨m, hm, rfl⟩ := Option.map_eq_some_iff.1 h
      have := toVals_len n (by simp at hn; omega) hm
      simp; omega
    · cases h
theorem fillC_len (place : Nat → Option (Nat × Nat)) : ∀ (ps : List (Nat × D)) (cs cs' : List Ce), fillC place cs ps = some cs' → cs'.length = cs.length
  | [], cs, cs', h => by have h := Option.some.inj h; rw [h]
  | (i, .one d) :: ps, cs, cs', h => by
    unfold fillC at h
    split at h
    · split at h
      · rename_i hc
        have := fillC_len place ps _ _ h
        rw [this]
        unfold splice
        simp; omega
      · cases h
    · cases h
  | (i, .tup _) :: ps, cs, cs', h => by cases h
  | (i, .box _ _) :: ps, cs, cs', h => by cases h
  | (i, .eli _ _) :: ps, cs, cs', h => by cases h
  | (i, .elv _ _ _) :: ps, cs, cs', h => by cases h
  | (i, .elr _ _) :: ps, cs, cs', h => by cases h
  | (i, .any) :: ps, cs, cs', h => by cases h
theorem below_all (w : World) (o : Obj) : Below w.heap.size w (w.alloc o) := (Below.refl _ _).alloc (Nat.le_refl _) o
theorem range_list {α : Type} (n : Nat) (f : Nat → α) : ((Array.range n).map f).toList = (List.range n).map f := by simp
theorem run_buildSlice' {w : World} (t e n size : Nat) (z : Value) (zc : Array Value) (hu : Try.prog.underlying t = some (.slice e)) (hs : (sizeOf e).run Try.prog w = .ok size w) (hz : (zeroValue e).run Try.prog w = .ok z w) (hzc : z.cells = zc) (hn : ¬ n * size > 2 ^ 24) (parts : Array (Nat × Value)) (arr : Array Value)
    (hf : Instr.fill (fun i => some (i * size, size)) ((Array.range (n * size)).map (zc[· % zc.size]!)) parts.toList = some arr) :
    (Instr.buildSlice t n parts).run Try.prog w = .ok (.slice (some ⟨w.heap.size, 0, none⟩) n n) (w.alloc (.cells arr e)) := by
  subst hzc
  unfold Instr.buildSlice
  simp only [Sem.run_bind, run_underlying hu, Result.andThen_ok, hs]
  rw [if_neg hn]
  by_cases h0 : n * size = 0
  · have e0 : ∀ f g : Nat → Value, (Array.range (n * size)).map f = (Array.range (n * size)).map g := by
      intro f g; rw [h0, Array.map_congr_left]; intro x hx; simp at hx
    rw [e0 _ (fun i => (#[] : Array Value)[i % (#[] : Array Value).size]!)] at hf
    simp only [h0, if_true, Sem.run_bind, Sem.run_pure, Result.andThen_ok] at hf ⊢
    rw [hf]
    rfl
  · simp only [if_neg h0, Sem.run_bind, hz, Sem.run_pure, Result.andThen_ok, hf]
    rfl
theorem u40 : Try.prog.underlying 40 = some (.slice 22) := by kernel_rfl
theorem toRows_key : ∀ {vs : List Value} {cs : List Ce} {l : List (List Int)}, All2 (RepC S w) vs cs → toRows cs = some l → l.length = cs.length ∧ ∀ (j : Nat) (x : List Int), l[j]? = some x → ∃ v, vs[j]? = some v ∧ SlI S w v x
  | [], [], l, _, h => by have h := Option.some.inj h; subst h; exact ⟨rfl, fun j x hx => by simp at hx⟩
  | v :: vs, c :: cs, l, h1, h => by
    unfold toRows at h
    split at h
    · rename_i he; cases he
    · rename_i b f r' he
      injection he with he1 he2
      subst he1; subst he2
      obtain ⟨m, hm, rfl⟩ := Option.map_eq_some_iff.1 h
      obtain ⟨g1, g2⟩ := toRows_key h1.2 hm
      refine ⟨by simp [g1], fun j x hx => ?_⟩
      cases j with
      | zero =>
        obtain rfl : f = x := by simpa using hx
        exact ⟨v, rfl, h1.1.1⟩
      | succ j => exact g2 j x (by simpa using hx)
    · cases h
  | [], _ :: _, _, h, _ => h.elim
  | _ :: _, [], _, h, _ => h.elim
theorem new_rows {arr : Array Value} {e : Nat} {l : List (List Int)} (hS : ∀ b, S.bad b → b < w.heap.size) : ∀ {cs : List Ce}, All2 (RepC S w) arr.toList cs → toRows cs = some l → l.length ≤ 1000 → RepC S (w.alloc (.cells arr e)) (.slice (some ⟨w.heap.size, 0, none⟩) l.length l.length) (.rows l) := by
  intro cs h hl hn
  refine ⟨_, _, rfl, Nat.le_refl _, by omega, fun _ => ⟨_, rfl, rfl, fun h => absurd (hS _ h) (by simp), ?_⟩⟩
  intro j x hx
  obtain ⟨v, h2, h3⟩ := (toRows_key h hl).2 j x hx
  have hadd : ∀ j, (⟨w.heap.size, 0, none⟩ : Addr).add j = ⟨w.heap.size, j, none⟩ := by intro j; unfold Addr.add; split <;> simp_all
  have hc : ∀ j, (w.alloc (.cells arr e)).cell? ((⟨w.heap.size, 0, none⟩ : Addr).add j) = arr[j]? := fun j => by
    rw [hadd, cell_of_row (w.alloc (.cells arr e)) w.heap.size j arr e (0, 0) (heap_alloc_new w _)]
  exact ⟨v, (hc _).trans (by simpa using h2), h3.mv (mv_alloc _)⟩
theorem op_buildSlice (h : Env S B ρ tm bv ov a w) (t : TypeId) (n : Nat) (parts : Array (Nat × Operand)) (ho : o.op = .buildSlice t n parts) (hd : denOp Γ tm bv ov o.dst (.buildSlice t n parts) k kd = some r) (hK : KOk S B ρ bv ov a w o k r K) : o.wp Try.prog a w K Q := by
  simp only [denOp] at hd
  split at hd
  · cases hd
  rename_i hn
  have hp : (parts.map fun p => (p.1, a.eval p.2)).toList = parts.toList.map fun p => (p.1, a.eval p.2) := Array.toList_map ..
  split at hd
  · rename_i ht; subst ht
    split at hd
    · rename_i cs hc
      split at hd
      · rename_i l hl
        have h0 : All2 (RepC S w) ((Array.range (n * 1)).map (fun i => (#[Value.int .i64 0] : Array Value)[i % 1]!)).toList ((List.range (n * 1)).map fun _ => i0) := by
          rw [range_list]
          exact all2_map _ _ (fun i => by rw [Nat.mod_one]; rfl) _
        obtain ⟨arr, h1, h2⟩ := fill_rep (fun i => some (i * 1, 1)) _ _ _ _ cs h0 (parts_rep h parts.toList) hc
        have hlen : l.length = n := by rw [toInts_len hl, fillC_len _ _ _ _ hc]; simp
        refine wp_val (w' := w.alloc (.cells arr 3)) (v := .slice (some ⟨w.heap.size, 0, none⟩) n n) ?_ ?_
        rotate_left
        · split at hd
          · rename_i d hdst
            split at hd
            · refine hK _ _ _ _ hd ⟨d, hdst, rfl, fun u hu => (by cases hu), ?_, ⟨_, _, _, rfl⟩, World.grownBy_alloc w _ _, fun b hb => .inl ?_⟩
              · refine .inr ?_
                rw [hlen]
                have hsz : arr.size = n * 1 := by rw [← Array.length_toList, h2.len, ← toInts_len hl, hlen, Nat.mul_one]
                have := World.ownsRow_lit (base := B) (e := 3) (size := 1) w arr n h.size (by simp only [maxLen]; omega) hsz
                rwa [toInts_eq h2 hl] at this
              · unfold ownB at hb
                simp only at hb
                split at hb
                · cases hb
                · obtain rfl := Option.some.inj hb; simp
            · exact hK _ _ _ _ hd ⟨below_all w _, hlen ▸ new_ints h.base h2 hl (by omega)⟩
          · cases hd
        have hrun := run_buildSlice' 22 3 n 1 (.int .i64 0) #[.int .i64 0] u22 (run_size w (t := 3) (z := [i0]) rfl) (run_zero w (t := 3) (z := [i0]) rfl) rfl (by omega) (parts.map fun p => (p.1, a.eval p.2)) arr (by rw [hp]; exact h1)
        simp only [execOp, ho, Sem.run_bind, hrun, Result.andThen_ok]
        rfl
      · cases hd
    · cases hd
  · split at hd
    · rename_i ht; subst ht
      split at hd
      · rename_i cs hc
        split at hd
        · rename_i l hl
          have h0 : All2 (RepC S w) ((Array.range (n * 2)).map (fun i => (#[Value.int .i64 0, .slice none 0 0] : Array Value)[i % 2]!)).toList ((List.range (n * 2)).map fun i => if i % 2 = 0 then i0 else .ints true []) := by
            rw [range_list]
            refine all2_map _ _ (fun i => ?_) _
            rcases (by omega : i % 2 = 0 ∨ i % 2 = 1) with e | e
            · rw [e]; rfl
            · rw [e]; exact zv_rep S w (.ints true []) rfl
          obtain ⟨arr, h1, h2⟩ := fill_rep (fun i => some (i * 2, 2)) _ _ _ _ cs h0 (parts_rep h parts.toList) hc
          have hlen : l.length = n := by
            have e1 := toVals_len _ (Nat.le_refl _) hl
            rw [fillC_len _ _ _ _ hc] at e1
            simp at e1; omega
          refine wp_val (w' := w.alloc (.cells arr 27)) (v := .slice (some ⟨w.heap.size, 0, none⟩) n n) ?_ ?_
          rotate_left
          · split at hd
            · rename_i d hdst
              split at hd
              · refine hK _ _ _ _ hd ⟨d, hdst, rfl, fun u hu => (by cases hu), ?_, ⟨_, _, _, rfl⟩, World.grownBy_alloc w _ _, fun b hb => .inl ?_⟩
                · refine .inr ⟨arr.toList, ?_, ?_⟩
                  · rw [hlen]
                    have e1 := toVals_len _ (Nat.le_refl _) hl
                    have hsz : arr.size = n * 2 := by rw [← Array.length_toList, h2.len, ← e1, hlen]
                    exact World.ownsRow_lit (base := B) (e := 27) (size := 2) w arr n h.size (by simp only [maxLen]; omega) hsz
                  · intro j x hx
                    obtain ⟨g1, u, g2, g3⟩ := toVals_key _ _ _ _ (Nat.le_refl _) h2 hl j x hx
                    exact ⟨g1, u, g2, g3⟩
                · unfold ownB at hb
                  simp only at hb
                  split at hb
                  · cases hb
                  · obtain rfl := Option.some.inj hb; simp
              · exact hK _ _ _ _ hd ⟨below_all w _, hlen ▸ new_vals h.base h2 hl (by omega)⟩
            · cases hd
          have hrun := run_buildSlice' 24 27 n 2 (.agg #[.int .i64 0, .slice none 0 0]) #[.int .i64 0, .slice none 0 0] u24 (run_size w (t := 27) (z := [i0, .ints true []]) rfl) (run_zero w (t := 27) (z := [i0, .ints true []]) rfl) rfl (by omega) (parts.map fun p => (p.1, a.eval p.2)) arr (by rw [hp]; exact h1)
          simp only [execOp, ho, Sem.run_bind, hrun, Result.andThen_ok]
          rfl
        · cases hd
      · cases hd
    · split at hd
      · rename_i ht; subst ht
        split at hd
        · rename_i cs hc
          split at hd
          · rename_i l hl
            have h0 : All2 (RepC S w) ((Array.range (n * 1)).map (fun i => (#[Value.slice none 0 0] : Array Value)[i % 1]!)).toList ((List.range (n * 1)).map fun _ => Ce.ints true []) := by
              rw [range_list]
              exact all2_map _ _ (fun i => by rw [Nat.mod_one]; exact zv_rep S w (.ints true []) rfl) _
            obtain ⟨arr, h1, h2⟩ := fill_rep (fun i => some (i * 1, 1)) _ _ _ _ cs h0 (parts_rep h parts.toList) hc
            have hlen : l.length = n := by rw [(toRows_key h2 hl).1, fillC_len _ _ _ _ hc]; simp
            refine wp_val (w' := w.alloc (.cells arr 22)) (v := .slice (some ⟨w.heap.size, 0, none⟩) n n) ?_ ?_
            rotate_left
            · exact hK _ _ _ _ hd ⟨below_all w _, hlen ▸ new_rows h.base h2 hl (by omega)⟩
            have hrun := run_buildSlice' 40 22 n 1 (.slice none 0 0) #[.slice none 0 0] u40 (run_size w (t := 22) (z := [.ints true []]) rfl) (run_zero w (t := 22) (z := [.ints true []]) rfl) rfl (by omega) (parts.map fun p => (p.1, a.eval p.2)) arr (by rw [hp]; exact h1)
            simp only [execOp, ho, Sem.run_bind, hrun, Result.andThen_ok]
            rfl
          · cases hd
        · cases hd
      · cases hd
end
section
variable {S : Sc} {ρ : Nat → Nat} {tm : Nat → D} {bv : Nat → Option BoxC} {ov : Nat → Option Row} {B : Nat} {a : Act} {w : World} {o : Oper} {k : D → Eff → Res} {kd : Res} {r : Out} {K : Act → World → Prop} {Q : Exit → Act → World → Prop} {Γ : Ctx}
theorem nofalse {v : Value} : false = true → ∃ A n, v = .slice A n n := fun h => by cases h
/-- The cells of a row of the call's own. -/
theorem own_ints {v : Value} {l : List Int} {g n c : Nat} (h : OwnR S w B v (.ints l)) (hv : v = .slice (some ⟨g, 0, none⟩) n c) (hc : c ≠ 0) : n = l.length ∧ ∀ (j : Nat) x, l[j]? = some x → w.cell? ⟨g, j, none⟩ = some (.int .i64 x) := by
  subst hv
  rcases h with ⟨A, e, _⟩ | h
  · injection e with _ _ e; exact absurd e hc
  · have h0 := h.2
    have hn : n = l.length := by
      rcases h0 with ⟨e, _⟩ | ⟨g', cap, cur, e, _⟩
      · cases e
      · injection e
    subst hn
    refine ⟨rfl, fun j x hj => ?_⟩
    have hjl := (List.getElem?_eq_some_iff.1 hj).1
    rw [h.cellAt j (by omega), List.getElem?_map, hj]
    rfl
theorem own_vals {v : Value} {l : List S27} {g n c : Nat} (h : OwnR S w B v (.vals l)) (hv : v = .slice (some ⟨g, 0, none⟩) n c) (hc : c ≠ 0) : n = l.length ∧ ∀ (j : Nat) x, l[j]? = some x → w.cell? ⟨g, j * 2, none⟩ = some (.int .i64 x.f0) ∧ ∃ u, w.cell? ⟨g, j * 2 + 1, none⟩ = some u ∧ SlI S w u x.f1 := by
  subst hv
  rcases h with ⟨A, e, _⟩ | ⟨xs, h, he⟩
  · injection e with _ _ e; exact absurd e hc
  · have h0 := h.2
    have hn : n = l.length := by
      rcases h0 with ⟨e, _⟩ | ⟨g', cap, cur, e, _⟩
      · cases e
      · injection e
    subst hn
    refine ⟨rfl, fun j x hj => ?_⟩
    have hjl := (List.getElem?_eq_some_iff.1 hj).1
    obtain ⟨g1, u, g2, g3⟩ := he j x hj
    exact ⟨(h.cellAt _ (by omega)).trans g1, u, (h.cellAt _ (by omega)).trans g2, g3⟩
theorem op_load (h : Env S B ρ tm bv ov a w) (t : TypeId) (x : Operand) (ho : o.op = .load t x) (hd : denOp Γ tm bv ov o.dst (.load t x) k kd = some r) (hK : KOk S B ρ bv ov a w o k r K) : o.wp Try.prog a w K Q := by
  have hx := h.ev x
  have fin : ∀ (v : Value) (ad : Addr) (d : D), a.eval x = .pointer (some ad) → (loadVar t ad).run Try.prog w = .ok v w → RepD S w ρ v d → k d .none = some r → o.wp Try.prog a w K Q := fun v ad d h1 h2 h3 h4 =>
    op_val hK h4 h3 (by simp [execOp, ho, h1, Instr.loadAt, Instr.sureAddr, h2, Result.andThen])
  simp only [denOp] at hd
  split at hd
  · rename_i b off ex
    rw [ex] at hx
    split at hd
    · rename_i bc z hb hz
      split at hd
      · rename_i hl
        split at hd
        · rename_i d hp
          obtain ⟨v, h1, h2⟩ := load_box h hb hz hl hp
          exact fin v _ d hx h1 h2 (splitD_is (k := fun d => k d .none) hd)
        · cases hd
      · cases hd
    · cases hd
  · rename_i l i ex
    rw [ex] at hx
    split at hd
    · rename_i ht; subst ht
      obtain ⟨ad, h1, h2⟩ := load_eli hx
      exact fin _ ad (num (rd l i)) h1 h2 rfl hd
    · cases hd
  · rename_i l i off ex
    rw [ex] at hx
    obtain ⟨ad, u, h1, hsp, h2, h3, h4⟩ := load_elv hx
    split at hd
    · rename_i ht; subst ht
      split at hd
      · rename_i h0; subst h0
        refine fin _ _ (.one (.agg [.int .i64 (rd_T27 l i).f0, .ints false (rd_T27 l i).f1])) h1 (run_load_agg (z := [i0, .ints true []]) rfl rfl _ [.int .i64 (rd_T27 l i).f0, u] rfl ?_) ⟨_, rfl, rfl, ⟨h4, nofalse⟩, trivial⟩ hd
        intro j v hv
        rw [add_add _ _ _ hsp]
        match j with
        | 0 => simp at hv; subst hv; simpa using h2
        | 1 => simp at hv; subst hv; simpa using h3
        | j + 2 => simp at hv
      · cases hd
    · split at hd
      · rename_i ht; subst ht
        split at hd
        · rename_i h0; subst h0
          exact fin _ _ (num (rd_T27 l i).f0) h1 (run_load_one (z := [i0]) rfl rfl _ _ h2) rfl hd
        · cases hd
      · split at hd
        · rename_i ht; subst ht
          split at hd
          · rename_i h0; subst h0
            exact fin _ _ (.one (.ce (.ints false (rd_T27 l i).f1))) h1 (run_load_one (z := [.ints true []]) rfl rfl _ _ h3) ⟨h4, nofalse⟩ hd
          · cases hd
        · cases hd
  · rename_i l i ex
    rw [ex] at hx
    split at hd
    · rename_i ht; subst ht
      obtain ⟨ad, u, h1, h2, h3⟩ := load_elr hx
      exact fin _ ad (.one (.ce (.ints false (rdR l i)))) h1 h2 ⟨h3, nofalse⟩ hd
    · cases hd
  · rename_i u i ex
    rw [ex] at hx
    obtain ⟨g, n, c, hv, hc, h0, hx⟩ := hx
    split at hd
    · rename_i l hu
      split at hd
      · rename_i ht; subst ht
        split at hd
        · rename_i hlt
          obtain ⟨_, hcell⟩ := own_ints (h.ow u _ hu).1 hv hc
          exact fin _ _ (num (rd l i)) hx (run_load_one (z := [i0]) rfl rfl _ _ (hcell _ _ (getD_get l 0 i h0 hlt))) rfl hd
        · cases hd
      · cases hd
    · cases hd
  · rename_i u i off ex
    rw [ex] at hx
    obtain ⟨g, n, c, hv, hc, h0, hx⟩ := hx
    split at hd
    · rename_i l hu
      split at hd
      · rename_i hlt
        obtain ⟨_, hcell⟩ := own_vals (h.ow u _ hu).1 hv hc
        obtain ⟨h2, q, h3, h4⟩ := hcell _ _ (getD_get l z27 i h0 hlt)
        split at hd
        · rename_i ht; subst ht
          split at hd
          · rename_i ho0; subst ho0
            refine fin _ _ (.one (.agg [.int .i64 (rd_T27 l i).f0, .ints false (rd_T27 l i).f1])) hx (run_load_agg (z := [i0, .ints true []]) rfl rfl _ [.int .i64 (rd_T27 l i).f0, q] rfl ?_) ⟨_, rfl, rfl, ⟨h4, nofalse⟩, trivial⟩ hd
            intro j v hv
            have hadd : ∀ j, (⟨g, i.toNat * 2 + 0, none⟩ : Addr).add j = ⟨g, i.toNat * 2 + j, none⟩ := by intro j; unfold Addr.add; split <;> simp_all
            rw [hadd]
            match j with
            | 0 => simp at hv; subst hv; exact h2
            | 1 => simp at hv; subst hv; exact h3
            | j + 2 => simp at hv
          · cases hd
        · split at hd
          · rename_i ht; subst ht
            split at hd
            · rename_i ho0; subst ho0
              exact fin _ _ (num (rd_T27 l i).f0) hx (run_load_one (z := [i0]) rfl rfl _ _ h2) rfl hd
            · cases hd
          · split at hd
            · rename_i ht; subst ht
              split at hd
              · rename_i ho0; subst ho0
                exact fin _ _ (.one (.ce (.ints false (rd_T27 l i).f1))) hx (run_load_one (z := [.ints true []]) rfl rfl _ _ h3) ⟨h4, nofalse⟩ hd
              · cases hd
            · cases hd
      · cases hd
    · cases hd
  · cases hd
theorem ownB_lit {g n c : Nat} (hc : c ≠ 0) : ownB (.slice (some ⟨g, 0, none⟩) n c) = some g := by unfold ownB; simp [hc]
theorem run_store3 {ad : Addr} {x : Value} {n : Int} (hc : w.cell? ad = some x) (hf : w.frozen? ad = false) : (store ad (.int .i64 n)).run Try.prog w = .ok () (w.setCell ad (.int .i64 n)) := by
  rw [run_store Try.prog w _ _ _ rfl, hc]
  simp [hf]
theorem own_set_int {v : Value} {l : List Int} {g n' c : Nat} (h : OwnR S w B v (.ints l)) (hv : v = .slice (some ⟨g, 0, none⟩) n' c) (hc : c ≠ 0) (i n : Int) (h0 : 0 ≤ i) (hlt : i < l.length) :
    ∃ w', (storeVar 3 ⟨g, i.toNat, none⟩ (.int .i64 n)).run Try.prog w = .ok () w' ∧ OwnR S w' B v (.ints (l.set i.toNat n)) ∧ w.grownBy w' (ownB v) ∧ w'.heap.size = w.heap.size := by
  obtain ⟨hn, hcell⟩ := own_ints h hv hc
  subst hv
  have hcl := hcell _ _ (getD_get l 0 i h0 hlt)
  rcases h with ⟨A, e, _⟩ | h
  · injection e with _ _ e; exact absurd e hc
  · subst hn
    have hst := h.stored i.toNat (.int .i64 n)
    refine ⟨w.setCell ⟨g, i.toNat, none⟩ (.int .i64 n), ?_, .inr ?_, by rw [ownB_lit hc]; exact hst.2, by simp [World.setCell]⟩
    · have hs := run_store3 (n := n) hcl (h.frozenAt i.toNat)
      simp [storeVar, run_size w (t := 3) (z := [i0]) rfl, storeCells, Value.cells, Addr.add, hs, Result.andThen, i0]
    · rw [List.length_set, List.map_set]; exact hst.1
theorem own_set_val (hb : ∀ b, S.bad b → b < w.heap.size) {v : Value} {l : List S27} {g n' c : Nat} (h : OwnR S w B v (.vals l)) (hbad : ∀ b, ownB v = some b → S.bad b) (hv : v = .slice (some ⟨g, 0, none⟩) n' c) (hc : c ≠ 0) (i n : Int) (b : Bool) (m : List Int) (h0 : 0 ≤ i) (hlt : i < l.length)
    {arr : Array Value} (hr : All2 (RepC S w) arr.toList [.int .i64 n, .ints b m]) :
    ∃ w', (storeVar 27 ⟨g, i.toNat * 2 + 0, none⟩ (.agg arr)).run Try.prog w = .ok () w' ∧ OwnR S w' B v (.vals (l.set i.toNat ⟨n, m⟩)) ∧ w.grownBy w' (ownB v) ∧ w'.heap.size = w.heap.size := by
  obtain ⟨hn, hcell⟩ := own_vals h hv hc
  subst hv
  obtain ⟨hc1, q, hc2, _⟩ := hcell _ _ (getD_get l z27 i h0 hlt)
  have hbg : S.bad g := hbad g (ownB_lit hc)
  obtain ⟨al⟩ := arr
  match al, hr with
  | [x0, x1], ⟨r0, r1, _⟩ =>
  obtain rfl : x0 = .int .i64 n := r0
  have ho1 : x1.oneCell' = true := RepC.one (c := .ints b m) r1
  rcases h with ⟨A, e, _⟩ | ⟨xs, h, he⟩
  · injection e with _ _ e; exact absurd e hc
  · subst hn
    have hlen : xs.length = l.length * 2 := h.1
    have st1 := h.stored (i.toNat * 2) (.int .i64 n)
    have st2 := st1.1.stored (i.toNat * 2 + 1) x1
    have hg : w.grownBy ((w.setCell ⟨g, i.toNat * 2, none⟩ (.int .i64 n)).setCell ⟨g, i.toNat * 2 + 1, none⟩ x1) (some g) := World.grownBy.trans st1.2 st2.2
    have hsz : ((w.setCell ⟨g, i.toNat * 2, none⟩ (.int .i64 n)).setCell ⟨g, i.toNat * 2 + 1, none⟩ x1).heap.size = w.heap.size := by simp [World.setCell]
    have mv : Mv S S w ((w.setCell ⟨g, i.toNat * 2, none⟩ (.int .i64 n)).setCell ⟨g, i.toNat * 2 + 1, none⟩ x1) := ⟨by rw [hsz]; exact Nat.le_refl _, fun k hk hb' => hg.block k hk (fun e => hb' (by rw [Option.some.inj e]; exact hbg)), fun _ _ h => h, fun _ _ => rfl⟩
    refine ⟨_, ?_, .inr ⟨_, by rw [List.length_set]; exact st2.1, fun j x hj => ?_⟩, by rw [ownB_lit hc]; exact hg, hsz⟩
    · have hs1 := run_store3 (n := n) hc1 (h.frozenAt (i.toNat * 2))
      have hc2' : (w.setCell ⟨g, i.toNat * 2, none⟩ (.int .i64 n)).cell? ⟨g, i.toNat * 2 + 1, none⟩ = some q := by
        rw [st1.1.cellAt _ (by omega), List.getElem?_set, if_neg (by omega), ← h.cellAt _ (by omega)]; exact hc2
      have hs2 : (store ⟨g, i.toNat * 2 + 1, none⟩ x1).run Try.prog (w.setCell ⟨g, i.toNat * 2, none⟩ (.int .i64 n)) = .ok () ((w.setCell ⟨g, i.toNat * 2, none⟩ (.int .i64 n)).setCell ⟨g, i.toNat * 2 + 1, none⟩ x1) := by
        rw [run_store Try.prog _ _ _ _ ho1, hc2']
        simp [st1.1.frozenAt]
      simp [storeVar, run_size w (t := 27) (z := [i0, .ints true []]) rfl, storeCells, Value.cells, Addr.add, hs1, hs2, Result.andThen]
    · rw [List.getElem?_set] at hj
      split at hj
      · rename_i hji
        subst hji
        split at hj
        · obtain rfl := Option.some.inj hj
          refine ⟨?_, x1, ?_, (r1.1).mv mv⟩
          · rw [List.getElem?_set, if_neg (by omega), List.getElem?_set, if_pos rfl, if_pos (by omega)]
          · rw [List.getElem?_set, if_pos rfl, if_pos (by simp; omega)]
        · cases hj
      · rename_i hji
        obtain ⟨g1, u, g2, g3⟩ := he j x hj
        refine ⟨?_, u, ?_, g3.mv mv⟩
        · rw [List.getElem?_set, if_neg (by omega), List.getElem?_set, if_neg (by omega)]; exact g1
        · rw [List.getElem?_set, if_neg (by omega), List.getElem?_set, if_neg (by omega)]; exact g2
theorem op_store (h : Env S B ρ tm bv ov a w) (t : TypeId) (x y : Operand) (ho : o.op = .store t x y) (hd : denOp Γ tm bv ov o.dst (.store t x y) k kd = some r) (hK : KOk S B ρ bv ov a w o k r K) : o.wp Try.prog a w K Q := by
  simp only [denOp] at hd
  split at hd
  · rename_i b off d z ex ey hz
    split at hd
    · rename_i bc hb
      split at hd
      · rename_i hc
        obtain ⟨arr, old, h1, h2, h3⟩ := store_box h hb hz (h.one_ ey) hc.1 hc.2
        have hx := h.box_ ex
        refine wp_skp (w' := w.setRow (ρ b) arr) ?_ (hK _ _ undef _ hd ⟨arr, old, bc, hb, rfl, h1, rfl, h3⟩)
        simp [execOp, ho, hx, Instr.storeAt, Instr.sureAddr, h2, Result.andThen]
      · cases hd
    · cases hd
  · rename_i u i n z ex ey hz
    split at hd
    · rename_i l hu
      split at hd
      · rename_i ht; subst ht
        split at hd
        · rename_i hlt
          have hx := h.ev x
          rw [ex] at hx
          obtain ⟨g, n', c, hv, hc, h0, hx⟩ := hx
          have hy := h.num_ ey
          obtain ⟨w', h1, h2, h3, h4⟩ := own_set_int (h.ow u _ hu).1 hv hc i n h0 hlt
          refine wp_skp (w' := w') ?_ (hK _ _ undef _ hd ⟨_, hu, rfl, h2, h3, h4⟩)
          simp [execOp, ho, hx, hy, Instr.storeAt, Instr.sureAddr, h1, Result.andThen]
        · cases hd
      · cases hd
    · cases hd
  · rename_i u i n b m z ex ey hz
    split at hd
    · rename_i l hu
      split at hd
      · rename_i ht; subst ht
        split at hd
        · rename_i hlt
          have hx := h.ev x
          rw [ex] at hx
          obtain ⟨g, n', c, hv, hc, h0, hx⟩ := hx
          obtain ⟨arr, hy, hr⟩ := h.one_ ey
          obtain ⟨w', h1, h2, h3, h4⟩ := own_set_val h.base (h.ow u _ hu).1 (h.ow u _ hu).2 hv hc i n b m h0 hlt hr
          refine wp_skp (w' := w') ?_ (hK _ _ undef _ hd ⟨_, hu, rfl, h2, h3, h4⟩)
          rw [Nat.add_zero] at h1 hx
          simp [execOp, ho, hx, hy, Instr.storeAt, Instr.sureAddr, h1, Result.andThen]
        · cases hd
      · cases hd
    · cases hd
  · cases hd
theorem op_un (h : Env S B ρ tm bv ov a w) (op : UnOp) (t : TypeId) (x : Operand) (ho : o.op = .unOp op t x) (hd : denOp Γ tm bv ov o.dst (.unOp op t x) k kd = some r) (hK : KOk S B ρ bv ov a w o k r K) : o.wp Try.prog a w K Q := by
  simp only [denOp] at hd
  split at hd
  · rename_i n ex
    have vx := h.num_ ex
    exact op_val hK hd rfl (by simp [execOp, ho, vx, Op.unary, Op.intArith, i64_w, Result.andThen])
  · rename_i b ex
    have vx := h.bo_ ex
    exact op_val hK (splitB_is (k := fun b => k (bo b) .none) hd) rfl (by simp [execOp, ho, vx, Op.unary, Result.andThen])
  · cases hd
theorem op_fieldAddr (h : Env S B ρ tm bv ov a w) (t : TypeId) (x : Operand) (f : Nat) (ho : o.op = .fieldAddr t x f) (hd : denOp Γ tm bv ov o.dst (.fieldAddr t x f) k kd = some r) (hK : KOk S B ρ bv ov a w o k r K) : o.wp Try.prog a w K Q := by
  simp only [denOp] at hd
  split at hd
  · rename_i fs hfs
    split at hd
    · rename_i off ft hf
      obtain ⟨zt, hzt⟩ := tyZ_of_F hfs
      obtain ⟨fields, fd, hu, h1, h2, h3⟩ := ty_field hzt hfs hf
      split at hd
      · rename_i z b o' hz ex
        split at hd
        · cases hd
        rename_i hz0
        have hx := h.box_ ex
        refine op_val (v := .pointer (some ⟨ρ b, o' + off, none⟩)) hK hd rfl ?_
        have hadd : (⟨ρ b, o', none⟩ : Addr).add off = ⟨ρ b, o' + off, none⟩ := by unfold Addr.add; split <;> simp_all
        have hsz := run_size w hz
        simp only [execOp, ho, hx, Instr.fieldAt, Sem.run_bind, run_underlying hu, Result.andThen_ok, h1, Instr.sureAddr, Sem.run_pure, fieldPlace, h2, h3, hsz]
        rw [if_neg hz0, hadd]
        rfl
      · rename_i z l i hz ex
        split at hd
        · rename_i hc
          obtain ⟨rfl, hz0⟩ := hc
          have hx := h.ev x
          rw [ex] at hx
          obtain ⟨ad, g0, g1, g2, hsp, g3, g4⟩ := hx
          refine op_val (v := .pointer (some (ad.add (i.toNat * 2 + off)))) hK hd ⟨ad, g0, g1, rfl, hsp, g3, g4⟩ ?_
          have hsz := run_size w hz
          have hadd := add_add ad (i.toNat * 2 + 0) off hsp
          simp only [execOp, ho, g2, Instr.fieldAt, Sem.run_bind, run_underlying hu, Result.andThen_ok, h1, Instr.sureAddr, Sem.run_pure, fieldPlace, h2, h3, hsz]
          rw [if_neg hz0, hadd, Nat.add_zero]
          rfl
        · cases hd
      · rename_i z u i hz ex
        split at hd
        · rename_i hc
          obtain ⟨rfl, hz0⟩ := hc
          have hx := h.ev x
          rw [ex] at hx
          obtain ⟨g, n', c, hv, hc, h0, hx⟩ := hx
          refine op_val (v := .pointer (some ⟨g, i.toNat * 2 + off, none⟩)) hK hd ⟨g, n', c, hv, hc, h0, rfl⟩ ?_
          have hsz := run_size w hz
          have hadd : (⟨g, i.toNat * 2 + 0, none⟩ : Addr).add off = ⟨g, i.toNat * 2 + off, none⟩ := by unfold Addr.add; split <;> simp_all
          simp only [execOp, ho, hx, Instr.fieldAt, Sem.run_bind, run_underlying hu, Result.andThen_ok, h1, Instr.sureAddr, Sem.run_pure, fieldPlace, h2, h3, hsz]
          rw [if_neg hz0, hadd]
          rfl
        · cases hd
      · cases hd
    · cases hd
  · cases hd
theorem op_field (h : Env S B ρ tm bv ov a w) (t : TypeId) (x : Operand) (f : Nat) (ho : o.op = .field t x f) (hd : denOp Γ tm bv ov o.dst (.field t x f) k kd = some r) (hK : KOk S B ρ bv ov a w o k r K) : o.wp Try.prog a w K Q := by
  simp only [denOp] at hd
  split at hd
  · rename_i fs cs hfs ex
    split at hd
    · rename_i off ft hf
      split at hd
      · rename_i d hp
        obtain ⟨zt, hzt⟩ := tyZ_of_F hfs
        obtain ⟨fields, fd, hu, h1, h2, h3⟩ := ty_field hzt hfs hf
        obtain ⟨arr, hx, hr⟩ := (h.one_ ex)
        obtain ⟨v, g1, g2⟩ := part_rep (ρ := ρ) hr hp
        refine op_val hK (splitD_is (k := fun d => k d .none) hd) g2 ?_
        simp only [execOp, ho, hx, Instr.field, Sem.run_bind, run_underlying hu, Result.andThen_ok, h1, asAgg, Sem.run_pure, h2, h3, g1]
      · cases hd
    · cases hd
  · cases hd
theorem sz3 (w : World) : (sizeOf 3).run Try.prog w = .ok 1 w := run_size w (t := 3) (z := [i0]) rfl
theorem sz27 (w : World) : (sizeOf 27).run Try.prog w = .ok 2 w := run_size w (t := 27) (z := [i0, .ints true []]) rfl
theorem sz22 (w : World) : (sizeOf 22).run Try.prog w = .ok 1 w := run_size w (t := 22) (z := [.ints true []]) rfl
theorem own_slice_i {v : Value} {l : List Int} (h : OwnR S w B v (.ints l)) (hl : 0 < l.length) : ∃ g c, v = .slice (some ⟨g, 0, none⟩) l.length c ∧ c ≠ 0 := by
  rcases h with ⟨A, _, rfl⟩ | h
  · simp at hl
  · rcases h.2 with ⟨_, e⟩ | ⟨g, cap, cur, e, _, _, h1, _⟩
    · omega
    · exact ⟨g, cap, e, by omega⟩
theorem own_slice_v {v : Value} {l : List S27} (h : OwnR S w B v (.vals l)) (hl : 0 < l.length) : ∃ g c, v = .slice (some ⟨g, 0, none⟩) l.length c ∧ c ≠ 0 := by
  rcases h with ⟨A, _, rfl⟩ | ⟨xs, h, _⟩
  · simp at hl
  · rcases h.2 with ⟨_, e⟩ | ⟨g, cap, cur, e, _, _, h1, _⟩
    · omega
    · exact ⟨g, cap, e, by omega⟩
theorem op_indexAddr (h : Env S B ρ tm bv ov a w) (t : TypeId) (x y : Operand) (ho : o.op = .indexAddr t x y) (hd : denOp Γ tm bv ov o.dst (.indexAddr t x y) k kd = some r) (hK : KOk S B ρ bv ov a w o k r K) : o.wp Try.prog a w K Q := by
  simp only [denOp] at hd
  split at hd
  · rename_i b0 l i ex ey
    split at hd
    · rename_i ht; subst ht
      split at hd
      · rename_i h0
        split at hd
        · rename_i h1
          have vy := h.num_ ey
          obtain ⟨A, c, hx, g1, g2, g3⟩ := (h.one_ ex).1
          obtain ⟨ad, rfl, hsp, hs, hc⟩ := g3 (by omega)
          refine op_val (v := .pointer (some (ad.add i.toNat))) hK hd ⟨ad, h0, h1, rfl, hsp, hs, hc⟩ ?_
          simp [execOp, ho, hx, vy, Instr.indexAt, asIntOf, run_underlying u22, h0, h1, sz3, Result.andThen]
        · cases hd
      · cases hd
    · cases hd
  · rename_i b0 l i ex ey
    split at hd
    · rename_i ht; subst ht
      split at hd
      · rename_i h0
        split at hd
        · rename_i h1
          have vy := h.num_ ey
          obtain ⟨A, c, hx, g1, g2, g3⟩ := (h.one_ ex).1
          obtain ⟨ad, rfl, hsp, hs, hc⟩ := g3 (by omega)
          refine op_val (v := .pointer (some (ad.add (i.toNat * 2 + 0)))) hK hd ⟨ad, h0, h1, rfl, hsp, hs, hc⟩ ?_
          simp [execOp, ho, hx, vy, Instr.indexAt, asIntOf, run_underlying u24, h0, h1, sz27, Result.andThen]
        · cases hd
      · cases hd
    · cases hd
  · rename_i l i ex ey
    split at hd
    · rename_i ht; subst ht
      split at hd
      · rename_i h0
        split at hd
        · rename_i h1
          have vy := h.num_ ey
          obtain ⟨A, c, hx, g1, g2, g3⟩ := h.one_ ex
          obtain ⟨ad, rfl, hsp, hs, hc⟩ := g3 (by omega)
          refine op_val (v := .pointer (some (ad.add i.toNat))) hK hd ⟨ad, h0, h1, rfl, hsp, hs, hc⟩ ?_
          simp [execOp, ho, hx, vy, Instr.indexAt, asIntOf, run_underlying u40, h0, h1, sz22, Result.andThen]
        · cases hd
      · cases hd
    · cases hd
  · rename_i u i ex ey
    have vy := h.num_ ey
    obtain ⟨hx, _⟩ := h.one_ ex
    split at hd
    · rename_i l hu
      split at hd
      · rename_i ht; subst ht
        split at hd
        · rename_i h0
          split at hd
          · rename_i h1
            obtain ⟨g, c, hv, hc⟩ := own_slice_i (h.ow u _ hu).1 (by omega)
            refine op_val (v := .pointer (some ⟨g, i.toNat, none⟩)) hK hd ⟨g, l.length, c, hv, hc, h0, rfl⟩ ?_
            have hadd : (⟨g, 0, none⟩ : Addr).add (i.toNat * 1) = ⟨g, i.toNat, none⟩ := by unfold Addr.add; split <;> simp_all
            simp [execOp, ho, hx, hv, vy, Instr.indexAt, asIntOf, run_underlying u22, h0, h1, sz3, Result.andThen]
            simpa using hadd
          · cases hd
        · cases hd
      · cases hd
    · rename_i l hu
      split at hd
      · rename_i ht; subst ht
        split at hd
        · rename_i h0
          split at hd
          · rename_i h1
            obtain ⟨g, c, hv, hc⟩ := own_slice_v (h.ow u _ hu).1 (by omega)
            refine op_val (v := .pointer (some ⟨g, i.toNat * 2 + 0, none⟩)) hK hd ⟨g, l.length, c, hv, hc, h0, rfl⟩ ?_
            have hadd : (⟨g, 0, none⟩ : Addr).add (i.toNat * 2) = ⟨g, i.toNat * 2, none⟩ := by unfold Addr.add; split <;> simp_all
            simp [execOp, ho, hx, hv, vy, Instr.indexAt, asIntOf, run_underlying u24, h0, h1, sz27, Result.andThen, hadd]
          · cases hd
        · cases hd
      · cases hd
    · cases hd
  · cases hd
theorem op_extract (h : Env S B ρ tm bv ov a w) (x : Operand) (i : Nat) (ho : o.op = .extract x i) (hd : denOp Γ tm bv ov o.dst (.extract x i) k kd = some r) (hK : KOk S B ρ bv ov a w o k r K) : o.wp Try.prog a w K Q := by
  simp only [denOp] at hd
  split at hd
  · rename_i l ex
    split at hd
    · rename_i d hl
      have hx := h.ev x
      rw [ex] at hx
      obtain ⟨vs, h1, h2⟩ := hx
      obtain ⟨v, g1, g2⟩ := h2.get i d hl
      refine op_val (v := v) hK hd g2 ?_
      have : vs[i]? = some v := by simpa using g1
      simp [execOp, ho, h1, Instr.extract, this, Result.andThen]
    · cases hd
  · cases hd
theorem run_lo (w : World) (A : Option Addr) (n c : Nat) (i : Int) (h0 : 0 ≤ i) (h1 : i ≤ n) (hc : n ≤ c) : (Instr.slice 22 (.slice A n c) (some (.int .i64 i)) none none).run Try.prog w = .ok (.slice (if c = i.toNat then A else A.map (·.add (i.toNat * 1))) (n - i.toNat) (c - i.toNat)) w := by
  simp [Instr.slice, run_underlying u22, Instr.sliceBounds, Instr.sliceBound, asIntOf, h0, h1, sz3, Result.andThen]
theorem run_hi (w : World) (A : Option Addr) (n c : Nat) (i : Int) (h0 : 0 ≤ i) (h1 : i ≤ c) : (Instr.slice 22 (.slice A n c) none (some (.int .i64 i)) none).run Try.prog w = .ok (.slice (if c = 0 then A else A.map (·.add (0 * 1))) (i.toNat - 0) (c - 0)) w := by
  simp [Instr.slice, run_underlying u22, Instr.sliceBounds, Instr.sliceBound, asIntOf, h0, h1, sz3, Result.andThen]
theorem drop_rep {v : Value} {l : List Int} (hx : SlI S w v l) {i : Int} (h0 : 0 ≤ i) (h1 : i ≤ l.length) : ∃ u, (Instr.slice 22 v (some (.int .i64 i)) none none).run Try.prog w = .ok u w ∧ SlI S w u (l.drop i.toNat) := by
  obtain ⟨A, c, rfl, g1, g2, g3⟩ := hx
  refine ⟨_, run_lo w A l.length c i h0 h1 g1, _, _, by rw [List.length_drop], by rw [List.length_drop]; omega, by rw [List.length_drop]; omega, fun hl => ?_⟩
  rw [List.length_drop] at hl
  obtain ⟨ad, rfl, hsp, hs, hc⟩ := g3 (by omega)
  rw [if_neg (by omega)]
  refine ⟨ad.add (i.toNat * 1), rfl, by rw [Nat.mul_one]; unfold Addr.add; split <;> simp [hsp], by rw [add_block]; exact hs, fun j x hj => ?_⟩
  rw [Nat.mul_one, add_add _ _ _ hsp]
  exact hc _ _ (by rwa [List.getElem?_drop] at hj)
theorem take_rep {v : Value} {l : List Int} (hx : SlI S w v l) {i : Int} (h0 : 0 ≤ i) (h1 : i ≤ l.length) : ∃ u, (Instr.slice 22 v none (some (.int .i64 i)) none).run Try.prog w = .ok u w ∧ SlI S w u (l.take i.toNat) := by
  obtain ⟨A, c, rfl, g1, g2, g3⟩ := hx
  have hm : (l.take i.toNat).length = i.toNat := by rw [List.length_take]; omega
  refine ⟨_, run_hi w A l.length c i h0 (by omega), (if c = 0 then A else A.map (·.add (0 * 1))), c - 0, by rw [hm]; rfl, by rw [hm]; omega, by rw [hm]; omega, fun hl => ?_⟩
  rw [hm] at hl
  obtain ⟨ad, rfl, hsp, hs, hc⟩ := g3 (by omega)
  rw [if_neg (by omega)]
  refine ⟨ad, by simp [Addr.add], hsp, hs, fun j x hj => hc _ _ ?_⟩
  rw [List.getElem?_take] at hj
  split at hj
  · exact hj
  · cases hj
theorem op_slice (h : Env S B ρ tm bv ov a w) (t : TypeId) (x : Operand) (lo hi mx : Option Operand) (ho : o.op = .slice t x lo hi mx) (hd : denOp Γ tm bv ov o.dst (.slice t x lo hi mx) k kd = some r) (hK : KOk S B ρ bv ov a w o k r K) : o.wp Try.prog a w K Q := by
  have hat : ∀ v l h, Instr.sliceAt 22 v l h none = (do
      match ← underlying 22 with
      | .array n elem =>
        let a ← Instr.sureAddr v
        let (l, h, m) ← Instr.sliceBounds false n n l h none
        let size ← sizeOf elem
        pure (.slice (some (if m = l then a else a.add (l * size))) (h - l) (m - l))
      | _ => Instr.slice 22 v l h none : Sem Value) := fun _ _ _ => rfl
  have hrun : ∀ v l h u, (Instr.slice 22 v l h none).run Try.prog w = .ok u w → (Instr.sliceAt 22 v l h none).run Try.prog w = .ok u w := fun v l h u he => by
    rw [hat, Sem.run_bind, run_underlying u22]
    exact he
  simp only [denOp] at hd
  split at hd
  · rename_i b0 l ex
    split at hd
    · rename_i ht; subst ht
      split at hd
      · rename_i i el eh
        obtain ⟨y, rfl, ey⟩ := Option.map_eq_some_iff.1 el
        obtain rfl := Option.map_eq_none_iff.1 eh
        split at hd
        · rename_i h0
          split at hd
          · rename_i h1
            obtain ⟨u, g1, g2⟩ := drop_rep (h.one_ ex).1 h0 h1
            refine op_val (v := u) hK hd ⟨g2, nofalse⟩ ?_
            simp [execOp, ho, h.num_ ey, hrun _ _ _ _ g1, Result.andThen]
          · cases hd
        · cases hd
      · rename_i i el eh
        obtain ⟨y, rfl, ey⟩ := Option.map_eq_some_iff.1 eh
        obtain rfl := Option.map_eq_none_iff.1 el
        split at hd
        · rename_i h0
          split at hd
          · rename_i h1
            obtain ⟨u, g1, g2⟩ := take_rep (h.one_ ex).1 h0 h1
            refine op_val (v := u) hK hd ⟨g2, nofalse⟩ ?_
            simp [execOp, ho, h.num_ ey, hrun _ _ _ _ g1, Result.andThen]
          · cases hd
        · cases hd
      · cases hd
    · cases hd
  · cases hd
end
end Ev
end Go.Proofs.Ytldfljlklfhjkaa.PE
