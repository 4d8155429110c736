/- act's made and Do: what each method of the maker makes, they answer; written by a program of this session (wip/gen_do.py). Conditions: that the method answers. -/
import Derived.Test.YtldfljlklfhjkaaPFg1
namespace Go.Proofs.Ytldfljlklfhjkaa.PE
open Go.RowKit Go.Proofs.YtldfljlklfhjkaaW.PrintWords Go.Proofs.YtldfljlklfhjkaaW.PrintLast Go.Proofs.YtldfljlklfhjkaaW.PrintMore
set_option linter.unusedVariables false
set_option linter.unusedSimpArgs false
namespace Ev.Do
/-- What a method of the maker holds on its way: the maker's variable, its result's, and all that stood before. -/
structure Env (w : World) (kc : Array Value) (W : World) : Prop where
  below : Below w.heap.size w W
  kb : W.heap[w.heap.size]? = some (.cells kc 62 (0, 0))
  rb : W.heap[w.heap.size + 1]? = some (.cells #[.int .i64 0, .slice none 0 0] 27 (0, 0))
theorem Env.start (w : World) (kc : Array Value) : Env w kc ((w.alloc (.cells kc 62)).alloc (.cells #[.int .i64 0, .slice none 0 0] 27)) :=
  ⟨below_alloc (below_alloc (Below.refl _ _) _) _, blk_alloc (heap_alloc_new w _) _, by have := heap_alloc_new (w.alloc (.cells kc 62)) (.cells #[.int .i64 0, .slice none 0 0] 27); simpa using this⟩
theorem Env.alloc {w W : World} {kc : Array Value} (h : Env w kc W) (o : Obj) : Env w kc (W.alloc o) := ⟨below_alloc h.below o, blk_alloc h.kb o, blk_alloc h.rb o⟩
theorem Env.drewN {w W : World} {kc : Array Value} (h : Env w kc W) (n : Nat) : Env w kc (W.drewN n) := ⟨pw_below_drewN h.below n, h.kb, h.rb⟩
theorem Env.drew {w W : World} {kc : Array Value} (h : Env w kc W) : Env w kc W.drew := ⟨below_drew h.below, h.kb, h.rb⟩
theorem Env.then_ {w W W1 : World} {kc : Array Value} (h : Env w kc W) (hb : Below W.heap.size W W1) : Env w kc W1 := ⟨below_step h.below hb, blk_below h.kb hb, blk_below h.rb hb⟩
theorem Env.k8 {w W : World} {c0 c1 c2 c3 c4 c5 c6 c7 : Value} (h : Env w #[c0, c1, c2, c3, c4, c5, c6, c7] W) : W.cell? ⟨w.heap.size, 0, none⟩ = some c0 ∧ W.cell? ⟨w.heap.size, 1, none⟩ = some c1 ∧ W.cell? ⟨w.heap.size, 2, none⟩ = some c2 ∧ W.cell? ⟨w.heap.size, 3, none⟩ = some c3 ∧ W.cell? ⟨w.heap.size, 4, none⟩ = some c4 ∧ W.cell? ⟨w.heap.size, 5, none⟩ = some c5 ∧ W.cell? ⟨w.heap.size, 6, none⟩ = some c6 ∧ W.cell? ⟨w.heap.size, 7, none⟩ = some c7 :=
  ⟨(blk_cell h.kb 0).trans rfl, (blk_cell h.kb 1).trans rfl, (blk_cell h.kb 2).trans rfl, (blk_cell h.kb 3).trans rfl, (blk_cell h.kb 4).trans rfl, (blk_cell h.kb 5).trans rfl, (blk_cell h.kb 6).trans rfl, (blk_cell h.kb 7).trans rfl⟩
theorem Env.r2 {w W : World} {kc : Array Value} (h : Env w kc W) : W.cell? ⟨w.heap.size + 1, 0, none⟩ = some (.int .i64 0) ∧ W.cell? ⟨w.heap.size + 1, 1, none⟩ = some (.slice none 0 0) ∧ W.frozen? ⟨w.heap.size + 1, 0, none⟩ = false ∧ W.frozen? ⟨w.heap.size + 1, 1, none⟩ = false :=
  ⟨(blk_cell h.rb 0).trans rfl, (blk_cell h.rb 1).trans rfl, blk_frozen h.rb 0, blk_frozen h.rb 1⟩
theorem calls_any {P : Program} {f : FuncId} {args : Array Value} {W : World} {R : Ending → World → Prop} (p : World → Prop) (hp : p W) (h : ∀ W', p W' → Calls P f args W' R) : Calls P f args W R := h W hp
/-- A call that ends in a panic, with nothing that stood before turned. -/
def Dies (w : World) (e : Ending) (w' : World) : Prop := (∃ u pv, e = .panicked [{ v := .iface u pv, recovered := false }]) ∧ Below w.heap.size w w'
theorem dies_end {w w1 w2 : World} {u : TypeId} {pv : Value} {ds : List Deferred} (hd : ds = []) (h1 : Below w.heap.size w w1) (h2 : Below w1.heap.size w1 w2) : ds = [] ∧ Dies w (.panicked [{ v := .iface u pv, recovered := false }]) w2 :=
  ⟨hd, ⟨u, pv, rfl⟩, below_then h1 h1.size h2⟩
/-- A call that dies, in a walk that wants a way on: the way on is barred. -/
theorem die_or {P : Program} {f : FuncId} {args : Array Value} {w : World} {R D : Ending → World → Prop} (v : Value) (h : Calls P f args w D) (h1 : ∀ e w', D e w' → R e w') (h2 : ∀ e w', e = .returned v ∧ Aside0 False → R e w') : Calls P f args w R := h.mono h1
theorem must_dies (op : Int) (w : World) : Calls Try.prog 39 #[.bool false, .int .i64 op] w (Dies w) :=
  (must_no op w).mono fun e w' ⟨he, hw⟩ => ⟨⟨_, _, he⟩, hw ▸ Below.refl _ _⟩
/-- Blocks in which nothing lies: those of before, and some of this call. -/
def grow (S : Sc) (p : Nat → Prop) : Sc := ⟨fun b => S.bad b ∨ p b, S.val⟩
abbrev free : Sc := ⟨fun _ => False, fun _ => undef⟩
theorem sl_free {S : Sc} {w : World} {v : Value} {l : List Int} (h : SlI S w v l) : SlI free w v l := by
  obtain ⟨A, c, rfl, h1, h2, h3⟩ := h
  exact ⟨A, c, rfl, h1, h2, fun hl => by obtain ⟨ad, h4, h5, _, h6⟩ := h3 hl; exact ⟨ad, h4, h5, fun h => h, h6⟩⟩
theorem sl_below {S : Sc} {w w1 : World} {v : Value} {l : List Int} (h : SlI S w v l) (hb : Below w.heap.size w w1) : SlI S w1 v l := h.mv (q := fun _ => False) ⟨hb.size, fun b hb' _ => hb.block b hb', fun _ _ h => h, fun _ _ => rfl⟩
theorem set_other {W : World} {p : Addr} {u : Value} {b : Nat} (h : b ≠ p.block) : (W.setCell p u).heap[b]? = W.heap[b]? := by
  unfold World.setCell
  simp only [Array.getElem?_modify]
  rw [if_neg (fun e => h e.symm)]
theorem sl_ungrow {S : Sc} {p : Nat → Prop} {W W1 : World} {v : Value} {l : List Int} (h : SlI (grow S p) W v l) (hz : W.heap.size ≤ W1.heap.size) (hs : ∀ b, ¬ p b → W1.heap[b]? = W.heap[b]?) : SlI S W1 v l :=
  SlI.mv (q := fun _ => False) (S := grow S p) (S' := S) ⟨hz, fun b _ hn => hs b (fun hp => hn (Or.inr hp)), fun _ _ h => Or.inl h, fun _ _ => rfl⟩ h
/-- What made's call of a method has by itself. -/
abbrev mS (S : Sc) (w : World) : Sc := grow S (fun b => b = w.heap.size + 1)
/-- What a method of the maker answers that makes a value. -/
def MakesS (S : Sc) (w : World) (k : Int) (f : List Int) (e : Ending) (w' : World) : Prop :=
  ∃ A c, e = .returned (.agg #[.int .i64 k, .slice A f.length c]) ∧ SlI S w' (.slice A f.length c) f ∧ Below w.heap.size w w'
/-- What made holds behind the method's call: the maker's variable and the result's, and the value that was made. -/
structure MEnv (S : Sc) (w : World) (kc : Array Value) (Wc : World) (A1 : Option Addr) (c1 : Nat) (f : List Int) (W : World) : Prop where
  e : Env w kc W
  b : Below Wc.heap.size Wc W
  r : SlI (mS S w) W (.slice A1 f.length c1) f
section
variable {S : Sc} {w : World} {kc : Array Value} {Wc : World} {A1 : Option Addr} {c1 : Nat} {f : List Int} {W W1 : World} {k : Int} {gv : Nat}
theorem MEnv.then_ (h : MEnv S w kc Wc A1 c1 f W) (hb : Below W.heap.size W W1) : MEnv S w kc Wc A1 c1 f W1 := ⟨h.e.then_ hb, below_step h.b hb, sl_below h.r hb⟩
theorem MEnv.alloc (h : MEnv S w kc Wc A1 c1 f W) (o : Obj) : MEnv S w kc Wc A1 c1 f (W.alloc o) := h.then_ (below_alloc (Below.refl _ _) o)
theorem MEnv.drewN (h : MEnv S w kc Wc A1 c1 f W) (n : Nat) : MEnv S w kc Wc A1 c1 f (W.drewN n) := h.then_ (pw_below_drewN (Below.refl _ _) n)
theorem MEnv.drew (h : MEnv S w kc Wc A1 c1 f W) : MEnv S w kc Wc A1 c1 f W.drew := h.then_ (below_drew (Below.refl _ _))
theorem MEnv.ends (h : MEnv S w kc Wc A1 c1 f W) (hE : Env w kc Wc) (u v : Value) :
    MakesS S w k f (.returned (.agg #[.int .i64 k, .slice A1 f.length c1])) ((W.setCell ⟨w.heap.size + 1, 0, none⟩ u).setCell ⟨w.heap.size + 1, 1, none⟩ v) :=
  ⟨A1, c1, rfl, sl_ungrow h.r (by simp) (fun b hb => (set_other hb).trans (set_other hb)), below_set (below_set h.e.below (by omega)) (by omega)⟩
/-- And the variable in which it lies. -/
structure MV (S : Sc) (w : World) (kc : Array Value) (Wc : World) (A1 : Option Addr) (c1 : Nat) (f : List Int) (k : Int) (gv : Nat) (W : World) : Prop where
  m : MEnv S w kc Wc A1 c1 f W
  v : W.heap[gv]? = some (.cells #[.int .i64 k, .slice A1 f.length c1] 27 (0, 0))
theorem MV.start (h : MEnv S w kc Wc A1 c1 f W) : MV S w kc Wc A1 c1 f k W.heap.size (W.alloc (.cells #[.int .i64 k, .slice A1 f.length c1] 27)) := ⟨h.alloc _, heap_alloc_new W _⟩
theorem MV.then_ (h : MV S w kc Wc A1 c1 f k gv W) (hb : Below W.heap.size W W1) : MV S w kc Wc A1 c1 f k gv W1 := ⟨h.m.then_ hb, blk_below h.v hb⟩
theorem MV.drew (h : MV S w kc Wc A1 c1 f k gv W) : MV S w kc Wc A1 c1 f k gv W.drew := h.then_ (below_drew (Below.refl _ _))
theorem MV.drewN (h : MV S w kc Wc A1 c1 f k gv W) (n : Nat) : MV S w kc Wc A1 c1 f k gv (W.drewN n) := h.then_ (pw_below_drewN (Below.refl _ _) n)
theorem MV.k3 {c0 c1' c2 c3 c4 c5 c6 c7 : Value} (h : MV S w #[c0, c1', c2, c3, c4, c5, c6, c7] Wc A1 c1 f k gv W) :
    W.cell? ⟨w.heap.size, 0, none⟩ = some c0 ∧ W.cell? ⟨gv, 0, none⟩ = some (.int .i64 k) ∧ W.cell? ⟨gv, 1, none⟩ = some (.slice A1 f.length c1) := ⟨(blk_cell h.m.e.kb 0).trans rfl, (blk_cell h.v 0).trans rfl, (blk_cell h.v 1).trans rfl⟩
theorem Env.big (h : Env w kc W) : w.heap.size + 2 ≤ W.heap.size := by have := blk_lt h.rb; omega
end
theorem do1_idle (p q : Addr) (w : World) :
    CallsD Try.prog 38 #[.pointer (some p), .pointer (some q)] .returning w fun e u' w' => e = .returned (.tuple #[]) ∧ u' = .returning ∧ w' = w := by
  refine callsD_of_wpS Try.func38 rfl fun c₀ cs hu => ?_
  apply wpS_seq
  apply wpS_region
  simp [wpOpsS, go_sem, recoverD, hu, Try.ntmps38, Exit.thenS]
  apply wpS_seq
  apply wpS_region
  simp [wpOpsS, go_sem, Exit.thenS]
  refine wpS_cond (t := false) (by simp [Act.eval, Array.replicate]) ?_
  simp only [Bool.false_eq_true, if_false]
  refine wpS_of_wp (wp_skip ?_)
  cases c₀
  simp_all [bodyPostS, results, Try.results38]
theorem do1_panicking (g : Nat) (u : TypeId) (pv x0 x1 x2 : Value) (w : World) (hv : w.heap[g]? = some (.cells #[x0, x1] 27 (0, 0))) (hi : w.heap[g + 1]? = some (.cells #[x2] 4 (0, 0))) :
    CallsD Try.prog 38 #[.pointer (some ⟨g, 0, none⟩), .pointer (some ⟨g + 1, 0, none⟩)] (.panicking [{ v := .iface u pv, recovered := false }]) w fun e u' w' =>
      e = .returned (.tuple #[]) ∧ u' = .panicking [{ v := .iface u pv, recovered := true }] ∧ w' = ((w.setCell ⟨g, 0, none⟩ (.int .i64 0)).setCell ⟨g, 1, none⟩ (.slice none 0 0)).setCell ⟨g + 1, 0, none⟩ (.bool false) := by
  have c0 : w.cell? ⟨g, 0, none⟩ = some x0 := (blk_cell hv 0).trans rfl
  have f0 := blk_frozen hv 0
  have hv1 := blk_set hv 0 (.int .i64 0)
  have c1 : (w.setCell ⟨g, 0, none⟩ (.int .i64 0)).cell? ⟨g, 1, none⟩ = some x1 := (blk_cell hv1 1).trans rfl
  have f1 := blk_frozen hv1 1
  have hi2 := blk_far (p := ⟨g, 1, none⟩) (blk_far (p := ⟨g, 0, none⟩) hi (by simp) (.int .i64 0)) (by simp) (.slice none 0 0)
  have c2 : ((w.setCell ⟨g, 0, none⟩ (.int .i64 0)).setCell ⟨g, 1, none⟩ (.slice none 0 0)).cell? ⟨g + 1, 0, none⟩ = some x2 := (blk_cell hi2 0).trans rfl
  have f2 := blk_frozen hi2 0
  clear hv hi hv1 hi2
  refine callsD_of_wpS Try.func38 rfl fun c₀ cs hu => ?_
  apply wpS_seq
  apply wpS_region
  simp [wpOpsS, go_sem, recoverD, hu, Try.ntmps38, Exit.thenS]
  apply wpS_seq
  apply wpS_region
  simp [wpOpsS, go_sem, Exit.thenS]
  refine wpS_cond (t := true) (by simp [Act.eval, Array.replicate]) ?_
  simp only [if_true]
  apply wpS_region
  simp [wpOpsS, go_sem, bodyPostS, results, Try.results38, Array.replicate, c0, f0, c1, f1, c2, f2]
/-- Do's own variables. -/
abbrev dS (S : Sc) (w : World) : Sc := grow S (fun b => w.heap.size ≤ b ∧ b < w.heap.size + 5)
def kS (S : Sc) (w : World) (x : S27) (c : List Value) : Prop := ∃ A1 c1, c = [.int .i64 x.f0, .slice A1 x.f1.length c1] ∧ SlI S w (.slice A1 x.f1.length c1) x.f1
theorem kS_mk {S : Sc} {w : World} {x : S27} {A1 : Option Addr} {c1 : Nat} (h : SlI S w (.slice A1 x.f1.length c1) x.f1) : kS S w x [.int .i64 x.f0, .slice A1 x.f1.length c1] := ⟨A1, c1, rfl, h⟩
theorem at_S {S : Sc} {w : World} {A : Option Addr} {n c : Nat} {xs : List S27} (h : SlV S w (.slice A n c) xs) (i : Int) (h0 : 0 ≤ i) (h1 : i < xs.length) : ∃ ad A1 c1, A = some ad ∧ w.cell? (ad.add (i.toNat * 2)) = some (.int .i64 (rd_T27 xs i).f0) ∧ w.cell? ⟨(ad.add (i.toNat * 2)).block, (ad.add (i.toNat * 2)).off + 1, none⟩ = some (.slice A1 (rd_T27 xs i).f1.length c1) ∧ SlI S w (.slice A1 (rd_T27 xs i).f1.length c1) (rd_T27 xs i).f1 := by
  obtain ⟨A', c', e, _, _, h4⟩ := h
  injection e with e1 e2 e3
  subst e1 e3
  obtain ⟨ad, rfl, hsp, _, hc⟩ := h4 (by omega)
  have hx : xs[i.toNat]? = some (rd_T27 xs i) := by unfold rd_T27; rw [List.getD_eq_getElem?_getD, List.getElem?_eq_getElem (by omega)]; rfl
  obtain ⟨g1, v, g2, g3⟩ := hc i.toNat _ hx
  obtain ⟨A1, c1, rfl, g4, g5, g6⟩ := g3
  exact ⟨ad, A1, c1, rfl, g1, by rw [← add_field _ _ 1 (by omega)]; exact g2, A1, c1, rfl, g4, g5, g6⟩
/-- What Do holds on its way: its parameters' variables, its results', the maker's, and the maker's children that are there by now. -/
structure DEnv (S : Sc) (w : World) (ca cr ck : Array Value) (v : Value) (ps : List S27) (W : World) : Prop where
  below : Below w.heap.size w W
  ab : W.heap[w.heap.size]? = some (.cells ca 30 (0, 0))
  rb : W.heap[w.heap.size + 1]? = some (.cells cr 32 (0, 0))
  vb : W.heap[w.heap.size + 1 + 1]? = some (.cells #[.int .i64 0, .slice none 0 0] 27 (0, 0))
  ib : W.heap[w.heap.size + 1 + 1 + 1]? = some (.cells #[.bool false] 4 (0, 0))
  kb : W.heap[w.heap.size + 1 + 1 + 1 + 1]? = some (.cells ck 62 (0, 0))
  row : OwnRow (kS S w) 27 2 W (w.heap.size + 5) v ps
theorem alloc_size (W : World) (o : Obj) : (W.alloc o).heap.size = W.heap.size + 1 := by simp
theorem DEnv.start (S : Sc) (w : World) (ca cr ck : Array Value) : DEnv S w ca cr ck (.slice none 0 0) [] (((((w.alloc (.cells ca 30)).alloc (.cells cr 32)).alloc (.cells #[.int .i64 0, .slice none 0 0] 27)).alloc (.cells #[.bool false] 4)).alloc (.cells ck 62)) := by
  refine ⟨?_, ?_, ?_, ?_, ?_, ?_, OwnRow.none_ _ _ _ _ _⟩
  · repeat (first | exact Below.refl _ _ | apply below_alloc)
  · exact blk_alloc (blk_alloc (blk_alloc (blk_alloc (blk_new _ _) _) _) _) _
  · exact blk_alloc (blk_alloc (blk_alloc (by have := blk_new (w.alloc (.cells ca 30)) (.cells cr 32); rwa [alloc_size] at this) _) _) _
  · exact blk_alloc (blk_alloc (by have := blk_new ((w.alloc (.cells ca 30)).alloc (.cells cr 32)) (.cells #[.int .i64 0, .slice none 0 0] 27); rwa [alloc_size, alloc_size] at this) _) _
  · exact blk_alloc (by have := blk_new (((w.alloc (.cells ca 30)).alloc (.cells cr 32)).alloc (.cells #[.int .i64 0, .slice none 0 0] 27)) (.cells #[.bool false] 4); rwa [alloc_size, alloc_size, alloc_size] at this) _
  · have := blk_new ((((w.alloc (.cells ca 30)).alloc (.cells cr 32)).alloc (.cells #[.int .i64 0, .slice none 0 0] 27)).alloc (.cells #[.bool false] 4)) (.cells ck 62); rwa [alloc_size, alloc_size, alloc_size, alloc_size] at this
theorem DEnv.then_ {S : Sc} {w W W1 : World} {ca cr ck : Array Value} {v : Value} {ps : List S27} (h : DEnv S w ca cr ck v ps W) (hb : Below W.heap.size W W1) : DEnv S w ca cr ck v ps W1 :=
  ⟨below_step h.below hb, blk_below h.ab hb, blk_below h.rb hb, blk_below h.vb hb, blk_below h.ib hb, blk_below h.kb hb, h.row.below hb⟩
theorem DEnv.drewN {S : Sc} {w W : World} {ca cr ck : Array Value} {v : Value} {ps : List S27} (h : DEnv S w ca cr ck v ps W) (n : Nat) : DEnv S w ca cr ck v ps (W.drewN n) := h.then_ (pw_below_drewN (Below.refl _ _) n)
theorem DEnv.drew {S : Sc} {w W : World} {ca cr ck : Array Value} {v : Value} {ps : List S27} (h : DEnv S w ca cr ck v ps W) : DEnv S w ca cr ck v ps W.drew := h.then_ (below_drew (Below.refl _ _))
theorem DEnv.kc {S : Sc} {w W : World} {ca cr : Array Value} {v : Value} {ps : List S27} {c0 c1 c2 c3 c4 c5 c6 c7 : Value} (h : DEnv S w ca cr #[c0, c1, c2, c3, c4, c5, c6, c7] v ps W) :
    W.cell? ⟨w.heap.size + 1 + 1 + 1 + 1, 0, none⟩ = some c0 ∧ W.cell? ⟨w.heap.size + 1 + 1 + 1 + 1, 1, none⟩ = some c1 ∧ W.cell? ⟨w.heap.size + 1 + 1 + 1 + 1, 2, none⟩ = some c2 ∧ W.cell? ⟨w.heap.size + 1 + 1 + 1 + 1, 3, none⟩ = some c3 ∧ W.cell? ⟨w.heap.size + 1 + 1 + 1 + 1, 4, none⟩ = some c4 ∧ W.cell? ⟨w.heap.size + 1 + 1 + 1 + 1, 5, none⟩ = some c5 ∧ W.cell? ⟨w.heap.size + 1 + 1 + 1 + 1, 6, none⟩ = some c6 ∧ W.cell? ⟨w.heap.size + 1 + 1 + 1 + 1, 7, none⟩ = some c7 ∧ W.frozen? ⟨w.heap.size + 1 + 1 + 1 + 1, 1, none⟩ = false :=
  ⟨(blk_cell h.kb 0).trans rfl, (blk_cell h.kb 1).trans rfl, (blk_cell h.kb 2).trans rfl, (blk_cell h.kb 3).trans rfl, (blk_cell h.kb 4).trans rfl, (blk_cell h.kb 5).trans rfl, (blk_cell h.kb 6).trans rfl, (blk_cell h.kb 7).trans rfl, blk_frozen h.kb 1⟩
theorem DEnv.ac {S : Sc} {w W : World} {cr ck : Array Value} {v : Value} {ps : List S27} {c0 c1 : Value} (h : DEnv S w #[c0, c1] cr ck v ps W) : W.cell? ⟨w.heap.size, 0, none⟩ = some c0 ∧ W.cell? ⟨w.heap.size, 1, none⟩ = some c1 := ⟨(blk_cell h.ab 0).trans rfl, (blk_cell h.ab 1).trans rfl⟩
theorem DEnv.append_ {S : Sc} {w W w1 : World} {ca cr ck : Array Value} {v v1 : Value} {ps ps' : List S27} (h : DEnv S w ca cr ck v ps W) (hb : Below (w.heap.size + 5) W w1) (hr : OwnRow (kS S w) 27 2 w1 (w.heap.size + 5) v1 ps') : DEnv S w ca cr ck v1 ps' w1 :=
  ⟨h.below.trans (hb.mono (by omega)), (hb.block _ (by omega)).trans h.ab, (hb.block _ (by omega)).trans h.rb, (hb.block _ (by omega)).trans h.vb, (hb.block _ (by omega)).trans h.ib, (hb.block _ (by omega)).trans h.kb, hr⟩
theorem DEnv.store_ {S : Sc} {w W : World} {ca cr : Array Value} {v1 : Value} {ps : List S27} {c0 c1 c2 c3 c4 c5 c6 c7 u : Value} (h : DEnv S w ca cr #[c0, c1, c2, c3, c4, c5, c6, c7] v1 ps W) : DEnv S w ca cr #[c0, u, c2, c3, c4, c5, c6, c7] v1 ps (W.setCell ⟨w.heap.size + 1 + 1 + 1 + 1, 1, none⟩ u) :=
  ⟨below_set h.below (by omega), blk_far h.ab (by simp; omega) u, blk_far h.rb (by simp) u, blk_far h.vb (by simp) u, blk_far h.ib (by simp) u, blk_put h.kb 1 u rfl, h.row.set_ h.kb (by decide) 1 u⟩
theorem DEnv.big {S : Sc} {w W : World} {ca cr ck : Array Value} {v : Value} {ps : List S27} (h : DEnv S w ca cr ck v ps W) : w.heap.size + 5 ≤ W.heap.size := by have := blk_lt h.kb; omega
theorem take_succ_map (P : List Int) (l : List S27) (j : Nat) (p : Int) (hj : j < P.length) (hp : rd P (j : Int) = p) : (P.take j).map (rd_T27 l) ++ [rd_T27 l p] = (P.take (j + 1)).map (rd_T27 l) := by
  have e : P[j] = p := by rw [← hp]; unfold rd; simp [List.getD_eq_getElem?_getD, List.getElem?_eq_getElem hj]
  rw [← e, List.take_add_one, List.getElem?_eq_getElem hj, List.map_append]; rfl
theorem DEnv.kids {S : Sc} {w W : World} {ca cr ck : Array Value} {A2 : Option Addr} {n2 c2 : Nat} {ps : List S27} (hS : ∀ b, S.bad b → b < w.heap.size) (h : DEnv S w ca cr ck (.slice A2 n2 c2) ps W) : n2 = ps.length ∧ n2 ≤ c2 ∧ SlV (dS S w) W (.slice A2 ps.length c2) ps := by
  obtain ⟨A, c, e, hle, hr⟩ := h.row.reads
  obtain ⟨inner, ho, _⟩ := h.row
  injection e with e1 e2 e3
  subst e1 e2 e3
  refine ⟨rfl, hle, A2, c2, rfl, hle, hr.2.1, fun hl => ?_⟩
  obtain ⟨ad, rfl, h4⟩ := hr.2.2 hl
  have hb : ad.spot = none ∧ w.heap.size + 5 ≤ ad.block := by
    rcases ho.2 with ⟨h1, _⟩ | ⟨g, cap, cur, h1, h2, _⟩
    · cases h1
    · injection h1 with h1 _ _
      injection h1 with h1
      subst h1
      exact ⟨rfl, by simp at h2 ⊢; omega⟩
  refine ⟨ad, rfl, hb.1, fun hbad => ?_, fun j x hx => ?_⟩
  · have hbad : S.bad ad.block ∨ (w.heap.size ≤ ad.block ∧ ad.block < w.heap.size + 5) := hbad
    rcases hbad with hbad | hbad
    · have := hS _ hbad; omega
    · have := hb.2; omega
  · obtain ⟨cs, g1, ⟨A1, c1, rfl, g2⟩, g3⟩ := h4 j x hx
    refine ⟨g3 0 _ rfl, _, g3 1 _ rfl, ?_⟩
    refine SlI.mv (q := fun _ => False) (S := S) (S' := dS S w) (w := w) ⟨h.below.size, fun b hb' _ => h.below.block b hb', fun b hb' hbad => ?_, fun _ _ => rfl⟩ g2
    have hbad : S.bad b ∨ (w.heap.size ≤ b ∧ b < w.heap.size + 5) := hbad
    rcases hbad with hbad | hbad
    · exact hbad
    · omega
/-- What Do answers where a value is made. -/
def GivesS (S : Sc) (w : World) (k : Int) (f : List Int) (e : Ending) (w' : World) : Prop :=
  ∃ v, e = .returned (.tuple #[.agg #[.int .i64 k, v], .bool true]) ∧ SlI S w' v f ∧ Below w.heap.size w w'
theorem gives_end {S : Sc} {w Wc W3 : World} {ca cr ck : Array Value} {v : Value} {ps : List S27} {k : Int} {f : List Int} {A : Option Addr} {c : Nat} (h : DEnv S w ca cr ck v ps Wc) (hb : Below Wc.heap.size Wc W3)
    (hR : SlI (dS S w) W3 (.slice A f.length c) f) (u0 u1 u2 : Value) :
    GivesS S w k f (.returned (.tuple #[.agg #[.int .i64 k, .slice A f.length c], .bool true])) (((W3.setCell ⟨w.heap.size + 1 + 1, 0, none⟩ u0).setCell ⟨w.heap.size + 1 + 1, 1, none⟩ u1).setCell ⟨w.heap.size + 1 + 1 + 1, 0, none⟩ u2) :=
  ⟨_, rfl, sl_ungrow hR (by simp) (fun b hb => ((set_other (by simp; omega)).trans (set_other (by simp; omega))).trans (set_other (by simp; omega))), below_set (below_set (below_set (h.then_ hb).below (by omega)) (by omega)) (by omega)⟩
set_option maxHeartbeats 2000000 in
set_option maxRecDepth 100000 in
theorem do_ok (S : Sc) (op : Int) (A : Option Addr) (c : Nat) (P : List Int) (Al : Option Addr) (cl : Nat) (l : List S27) (y m d h i s : Int) (k : Int) (f : List Int) (w : World)
    (hS : ∀ b, S.bad b → b < w.heap.size) (hP : Kd.C (Kd.int .i64) w A P.length P) (hl : SlV S w (.slice Al l.length cl) l) (hin : ∀ j : Int, 0 ≤ j → j < P.length → 0 ≤ rd P j ∧ rd P j < l.length) (hop : op ≠ 0) (hsz : P.length ≤ 1000000)
    (hm : ∀ W A2 c2, Below w.heap.size w W → w.heap.size + 5 ≤ W.heap.size → SlV (dS S w) W (.slice A2 P.length c2) (P.map (rd_T27 l)) → Calls Try.prog 41 #[.agg #[.int .i64 op, .slice A2 P.length c2, .int .i64 y, .int .i64 m, .int .i64 d, .int .i64 h, .int .i64 i, .int .i64 s]] W (MakesS (dS S w) W k f)) :
    Calls Try.prog 22 #[.agg #[.int .i64 op, .slice A P.length c], .slice Al l.length cl, .agg #[.int .i64 y, .int .i64 m, .int .i64 d, .int .i64 h, .int .i64 i, .int .i64 s]] w (GivesS S w k f) := by
  have hmf : ∀ (fn : Fn) (first cap : Array Value) (w : World), (Instr.makeFunc fn first cap).run Try.prog w = .ok (.func fn first cap) w := fun _ _ _ _ => rfl
  have HP := Aside0.mk hP
  have HL := Aside0.mk hl
  have HS0 := Aside0.mk hS
  have HI := Aside0.mk hin
  have HO := Aside0.mk hop
  have HM := Aside0.mk hm
  have HZ := Aside0.mk hsz
  clear hP hl hin hop hm hsz hS
  generalize hn : P.length = n at *
  generalize hq : l.length = q at *
  have hn' := Aside0.mk hn
  have hq' := Aside0.mk hq
  have HN := Aside0.mk (Kd.C_max HP.out)
  clear hn hq
  go_enter_defers Try.func22, Try.ntmps22
  go_wp2_with fail
  go_loopg [19] n (fun kq v19 w' => ∃ (j : Nat) (v : Value), v19 = .int .i64 (j : Int) ∧ Aside0 (kq + j = n) ∧ Aside0 (DEnv S w #[.int .i64 op, .slice A n c] #[.int .i64 y, .int .i64 m, .int .i64 d, .int .i64 h, .int .i64 i, .int .i64 s] #[.int .i64 op, v, .int .i64 y, .int .i64 m, .int .i64 d, .int .i64 h, .int .i64 i, .int .i64 s] v ((P.take j).map (rd_T27 l)) w'))
  case atStart => exact ⟨0, _, rfl, ⟨by omega⟩, ⟨DEnv.start S w _ _ _⟩⟩
  case round =>
    obtain ⟨j, v, rfl, HJ, HD⟩ := hrel
    by_cases hj : (j : Int) < n
    · have hj' := decide_eq_true hj
      obtain ⟨ad, eA, hx⟩ := Kd.at_int (Kd.C_below HP.out HD.out.below) j (by omega) hj
      subst eA
      replace hx : wr.cell? (ad.add j) = some (.int .i64 (rd P (j : Int))) := by simpa using hx
      obtain ⟨hp0, hp1⟩ := HI.out j (by omega) hj
      obtain ⟨al, A1, c1, eAl, hx0, hx1, hCA⟩ := at_S HL.out (rd P j) hp0 (by rw [hq'.out]; exact hp1)
      have X0 := Aside0.mk hx0
      have X1 := Aside0.mk hx1
      have XK := Aside0.mk (kS_mk hCA)
      clear hCA
      subst eAl
      obtain ⟨a0, a1⟩ := HD.out.ac
      have hpq := decide_eq_true hp1
      have hpz := decide_eq_true hp0
      generalize hpd : rd P (j : Int) = p at *
      have HPD := Aside0.mk hpd
      clear hpd
      go_wp2_with (go_at_call 39; refine (act_must.calls true _ _ rfl).mono ?_; rintro e w' ⟨rfl, ⟨nd, rfl⟩⟩)
      have HD2 := Aside0.mk (HD.out.drewN nd)
      clear HD a0 a1 hx hx0 hx1
      generalize wr.drewN nd = W1 at *
      have HD := HD2
      clear HD2
      have HS : Aside0 ((((P.take j).map (rd_T27 l)).length + 1) * 32 ≤ 140737488355328) := ⟨by have := HZ.out; have := HJ.out; simp; omega⟩
      have hk : W1.drew.cell? ⟨w.heap.size + 1 + 1 + 1 + 1, 1, none⟩ = some v := HD.out.kc.2.1
      have hk1 : ∀ o, (W1.drew.alloc o).cell? ⟨w.heap.size + 1 + 1 + 1 + 1, 1, none⟩ = some v := fun o => pw_cell_below (below_alloc (Below.refl _ _) o) HD.out.kc.2.1
      have hk2 : ∀ o, (W1.alloc o).drew.cell? ⟨w.heap.size + 1 + 1 + 1 + 1, 1, none⟩ = some v := fun o => pw_cell_below (below_alloc (Below.refl _ _) o) HD.out.kc.2.1
      have hk3 : ∀ o, (W1.alloc o).cell? ⟨w.heap.size + 1 + 1 + 1 + 1, 1, none⟩ = some v := fun o => pw_cell_below (below_alloc (Below.refl _ _) o) HD.out.kc.2.1
      have hs0 := pw_cell_below (by repeat (first | (with_reducible first | exact HD.out.below | apply below_alloc | apply pw_below_drewN | apply below_drew) | exact HD.out.below | refine below_set ?_ (by omega)) : Below w.heap.size w W1.drew) X0.out
      have hs1 := pw_cell_below (by repeat (first | (with_reducible first | exact HD.out.below | apply below_alloc | apply pw_below_drewN | apply below_drew) | exact HD.out.below | refine below_set ?_ (by omega)) : Below w.heap.size w W1.drew) X1.out
      refine wp_region_noPanic ?_
      go_region_law (first | (refine OwnRow.append_step (P := Try.prog) (W := W1.drew) (w0 := W1.drew) (R := kS S w) (w.heap.size + 5) rfl (.tmp 35) (.tmp 40) 24 27 (.agg #[.int .i64 0, .slice none 0 0]) 2 32 rfl Try.underlying24 info27 rfl (by decide) (by decide) v _ (rd_T27 l p) [.int .i64 (rd_T27 l p).f0, .slice A1 (rd_T27 l p).f1.length c1] rfl rfl XK.out rfl (by simp [Value.oneCell']) HD.out.drew.row (Below.refl _ _) HD.out.drew.big HS.out ?_; intro v1 W2 hrow hb hg hat; obtain ⟨A2, c2, ev2, _⟩ := hrow.slice_; have HV2 := Aside0.mk hrow; clear hrow; generalize ((P.take j).map (rd_T27 l) ++ [rd_T27 l p]).length = n2 at ev2; subst ev2; have hrow := HV2.out; have HDn := Aside0.mk (HD.out.drew.append_ hb hrow); clear hrow hb hg hat HD; have HD := HDn; clear HDn; have kk1 := HD.out.kc.2.1; have kk8 := HD.out.kc.2.2.2.2.2.2.2.2; have kd1 := HD.out.drew.kc.2.1; have kd8 := HD.out.drew.kc.2.2.2.2.2.2.2.2))
      all_goals (refine NoPanic.normal ?_)
      all_goals
        go_wp2_with fail
        go_roundg (n - (j + 1))
        case measure => have := HJ.out; omega
        case rel =>
          have HW := HD.out.store_ (u := .slice A2 n2 c2)
          rw [take_succ_map P l j p (by rw [hn'.out]; omega) HPD.out] at HW
          exact ⟨j + 1, .slice A2 n2 c2, by rw [show wrap64 ((j : Int) + 1) = ((j + 1 : Nat) : Int) from by have := HN.out; unfold wrap64; omega], ⟨by have := HJ.out; omega⟩, ⟨HW⟩⟩
    · have hj' := decide_eq_false hj
      obtain ⟨a0, a1⟩ := HD.out.ac
      have hne : (op == 0) = false := beq_eq_false_iff_ne.mpr HO.out
      obtain ⟨k0, k1, k2, k3, k4, k5, k6, k7, k8⟩ := HD.out.kc
      obtain ⟨A2, c2, ev2, _⟩ := HD.out.row.slice_
      have hlen : ((P.take j).map (rd_T27 l)).length = n := by have := HJ.out; have := hn'.out; simp; omega
      rw [hlen] at ev2
      subst ev2
      have hps : (P.take j).map (rd_T27 l) = P.map (rd_T27 l) := by have := HJ.out; have := hn'.out; rw [List.take_of_length_le (by omega)]
      have hC := Aside0.mk (HD.out.kids HS0.out).2.2
      rw [hps] at hC
      have hplen : (P.map (rd_T27 l)).length = n := by have := hn'.out; simp; omega
      rw [hplen] at hC
      go_wp2_with (go_at_call 41; refine (HM.out _ _ _ HD.out.below HD.out.big hC.out).mono ?_; rintro e w2 ⟨A3, c3, rfl, hR, hb⟩; have HR3 := Aside0.mk hR; have HB3 := Aside0.mk hb; have HD3 := HD.out.then_ hb; have q0 : w2.cell? ⟨w.heap.size + 1 + 1, 0, none⟩ = some (.int .i64 0) := (blk_cell HD3.vb 0).trans rfl; have q1 := blk_frozen HD3.vb 0; have hv1 := blk_set HD3.vb 0 (.int .i64 k); have q2 : (w2.setCell ⟨w.heap.size + 1 + 1, 0, none⟩ (.int .i64 k)).cell? ⟨w.heap.size + 1 + 1, 1, none⟩ = some (.slice none 0 0) := (blk_cell hv1 1).trans rfl; have q3 := blk_frozen hv1 1; have hi2 := blk_far (p := ⟨w.heap.size + 1 + 1, 1, none⟩) (blk_far (p := ⟨w.heap.size + 1 + 1, 0, none⟩) HD3.ib (by simp) (.int .i64 k)) (by simp) (.slice A3 f.length c3); have q4 : ((w2.setCell ⟨w.heap.size + 1 + 1, 0, none⟩ (.int .i64 k)).setCell ⟨w.heap.size + 1 + 1, 1, none⟩ (.slice A3 f.length c3)).cell? ⟨w.heap.size + 1 + 1 + 1, 0, none⟩ = some (.bool false) := (blk_cell hi2 0).trans rfl; have q5 := blk_frozen hi2 0; have hV := Aside0.mk (blk_far (p := ⟨w.heap.size + 1 + 1 + 1, 0, none⟩) (blk_set hv1 1 (.slice A3 f.length c3)) (by simp) (.bool true)); have hI := Aside0.mk (blk_set hi2 0 (.bool true)); clear hR hb HD3 hv1 hi2)
      refine leaves_cons (f := 38) (args := #[.pointer (some ⟨w.heap.size + 1 + 1, 0, none⟩), .pointer (some ⟨w.heap.size + 1 + 1 + 1, 0, none⟩)]) (by simp) (by simp [go_sem]) ?_
      refine (do1_idle _ _ _).mono ?_
      rintro e u' w'' ⟨rfl, rfl, rfl⟩
      have v0 := blk_cell hV.out 0
      have v1 := blk_cell hV.out 1
      have i0 := blk_cell hI.out 0
      have hG := gives_end (k := k) HD.out HB3.out HR3.out (.int .i64 k) (.slice A3 f.length c3) (.bool true)
      simp [Leaves, settle, results, Try.results22, go_sem, v0, v1, i0]
      exact hG
/-- What Do answers where nothing is made. -/
def GivesNot (w : World) (e : Ending) (w' : World) : Prop := e = .returned (.tuple #[.agg #[.int .i64 0, .slice none 0 0], .bool false]) ∧ Below w.heap.size w w'
set_option maxHeartbeats 2000000 in
set_option maxRecDepth 100000 in
theorem do_no (S : Sc) (op : Int) (A : Option Addr) (c : Nat) (P : List Int) (Al : Option Addr) (cl : Nat) (l : List S27) (y m d h i s : Int) (w : World)
    (hS : ∀ b, S.bad b → b < w.heap.size) (hP : Kd.C (Kd.int .i64) w A P.length P) (hl : SlV S w (.slice Al l.length cl) l) (hin : ∀ j : Int, 0 ≤ j → j < P.length → 0 ≤ rd P j ∧ rd P j < l.length) (hop : op ≠ 0) (hsz : P.length ≤ 1000000)
    (hm : ∀ W A2 c2, Below w.heap.size w W → w.heap.size + 5 ≤ W.heap.size → SlV (dS S w) W (.slice A2 P.length c2) (P.map (rd_T27 l)) → Calls Try.prog 41 #[.agg #[.int .i64 op, .slice A2 P.length c2, .int .i64 y, .int .i64 m, .int .i64 d, .int .i64 h, .int .i64 i, .int .i64 s]] W (Dies W)) :
    Calls Try.prog 22 #[.agg #[.int .i64 op, .slice A P.length c], .slice Al l.length cl, .agg #[.int .i64 y, .int .i64 m, .int .i64 d, .int .i64 h, .int .i64 i, .int .i64 s]] w (GivesNot w) := by
  have hmf : ∀ (fn : Fn) (first cap : Array Value) (w : World), (Instr.makeFunc fn first cap).run Try.prog w = .ok (.func fn first cap) w := fun _ _ _ _ => rfl
  have HP := Aside0.mk hP
  have HL := Aside0.mk hl
  have HS0 := Aside0.mk hS
  have HI := Aside0.mk hin
  have HO := Aside0.mk hop
  have HM := Aside0.mk hm
  have HZ := Aside0.mk hsz
  clear hP hl hin hop hm hsz hS
  generalize hn : P.length = n at *
  generalize hq : l.length = q at *
  have hn' := Aside0.mk hn
  have hq' := Aside0.mk hq
  have HN := Aside0.mk (Kd.C_max HP.out)
  clear hn hq
  go_enter_defers Try.func22, Try.ntmps22
  go_wp2_with fail
  go_loopg [19] n (fun kq v19 w' => ∃ (j : Nat) (v : Value), v19 = .int .i64 (j : Int) ∧ Aside0 (kq + j = n) ∧ Aside0 (DEnv S w #[.int .i64 op, .slice A n c] #[.int .i64 y, .int .i64 m, .int .i64 d, .int .i64 h, .int .i64 i, .int .i64 s] #[.int .i64 op, v, .int .i64 y, .int .i64 m, .int .i64 d, .int .i64 h, .int .i64 i, .int .i64 s] v ((P.take j).map (rd_T27 l)) w'))
  case atStart => exact ⟨0, _, rfl, ⟨by omega⟩, ⟨DEnv.start S w _ _ _⟩⟩
  case round =>
    obtain ⟨j, v, rfl, HJ, HD⟩ := hrel
    by_cases hj : (j : Int) < n
    · have hj' := decide_eq_true hj
      obtain ⟨ad, eA, hx⟩ := Kd.at_int (Kd.C_below HP.out HD.out.below) j (by omega) hj
      subst eA
      replace hx : wr.cell? (ad.add j) = some (.int .i64 (rd P (j : Int))) := by simpa using hx
      obtain ⟨hp0, hp1⟩ := HI.out j (by omega) hj
      obtain ⟨al, A1, c1, eAl, hx0, hx1, hCA⟩ := at_S HL.out (rd P j) hp0 (by rw [hq'.out]; exact hp1)
      have X0 := Aside0.mk hx0
      have X1 := Aside0.mk hx1
      have XK := Aside0.mk (kS_mk hCA)
      clear hCA
      subst eAl
      obtain ⟨a0, a1⟩ := HD.out.ac
      have hpq := decide_eq_true hp1
      have hpz := decide_eq_true hp0
      generalize hpd : rd P (j : Int) = p at *
      have HPD := Aside0.mk hpd
      clear hpd
      go_wp2_with (go_at_call 39; refine (act_must.calls true _ _ rfl).mono ?_; rintro e w' ⟨rfl, ⟨nd, rfl⟩⟩)
      have HD2 := Aside0.mk (HD.out.drewN nd)
      clear HD a0 a1 hx hx0 hx1
      generalize wr.drewN nd = W1 at *
      have HD := HD2
      clear HD2
      have HS : Aside0 ((((P.take j).map (rd_T27 l)).length + 1) * 32 ≤ 140737488355328) := ⟨by have := HZ.out; have := HJ.out; simp; omega⟩
      have hk : W1.drew.cell? ⟨w.heap.size + 1 + 1 + 1 + 1, 1, none⟩ = some v := HD.out.kc.2.1
      have hk1 : ∀ o, (W1.drew.alloc o).cell? ⟨w.heap.size + 1 + 1 + 1 + 1, 1, none⟩ = some v := fun o => pw_cell_below (below_alloc (Below.refl _ _) o) HD.out.kc.2.1
      have hk2 : ∀ o, (W1.alloc o).drew.cell? ⟨w.heap.size + 1 + 1 + 1 + 1, 1, none⟩ = some v := fun o => pw_cell_below (below_alloc (Below.refl _ _) o) HD.out.kc.2.1
      have hk3 : ∀ o, (W1.alloc o).cell? ⟨w.heap.size + 1 + 1 + 1 + 1, 1, none⟩ = some v := fun o => pw_cell_below (below_alloc (Below.refl _ _) o) HD.out.kc.2.1
      have hs0 := pw_cell_below (by repeat (first | (with_reducible first | exact HD.out.below | apply below_alloc | apply pw_below_drewN | apply below_drew) | exact HD.out.below | refine below_set ?_ (by omega)) : Below w.heap.size w W1.drew) X0.out
      have hs1 := pw_cell_below (by repeat (first | (with_reducible first | exact HD.out.below | apply below_alloc | apply pw_below_drewN | apply below_drew) | exact HD.out.below | refine below_set ?_ (by omega)) : Below w.heap.size w W1.drew) X1.out
      refine wp_region_noPanic ?_
      go_region_law (first | (refine OwnRow.append_step (P := Try.prog) (W := W1.drew) (w0 := W1.drew) (R := kS S w) (w.heap.size + 5) rfl (.tmp 35) (.tmp 40) 24 27 (.agg #[.int .i64 0, .slice none 0 0]) 2 32 rfl Try.underlying24 info27 rfl (by decide) (by decide) v _ (rd_T27 l p) [.int .i64 (rd_T27 l p).f0, .slice A1 (rd_T27 l p).f1.length c1] rfl rfl XK.out rfl (by simp [Value.oneCell']) HD.out.drew.row (Below.refl _ _) HD.out.drew.big HS.out ?_; intro v1 W2 hrow hb hg hat; obtain ⟨A2, c2, ev2, _⟩ := hrow.slice_; have HV2 := Aside0.mk hrow; clear hrow; generalize ((P.take j).map (rd_T27 l) ++ [rd_T27 l p]).length = n2 at ev2; subst ev2; have hrow := HV2.out; have HDn := Aside0.mk (HD.out.drew.append_ hb hrow); clear hrow hb hg hat HD; have HD := HDn; clear HDn; have kk1 := HD.out.kc.2.1; have kk8 := HD.out.kc.2.2.2.2.2.2.2.2; have kd1 := HD.out.drew.kc.2.1; have kd8 := HD.out.drew.kc.2.2.2.2.2.2.2.2))
      all_goals (refine NoPanic.normal ?_)
      all_goals
        go_wp2_with fail
        go_roundg (n - (j + 1))
        case measure => have := HJ.out; omega
        case rel =>
          have HW := HD.out.store_ (u := .slice A2 n2 c2)
          rw [take_succ_map P l j p (by rw [hn'.out]; omega) HPD.out] at HW
          exact ⟨j + 1, .slice A2 n2 c2, by rw [show wrap64 ((j : Int) + 1) = ((j + 1 : Nat) : Int) from by have := HN.out; unfold wrap64; omega], ⟨by have := HJ.out; omega⟩, ⟨HW⟩⟩
    · have hj' := decide_eq_false hj
      obtain ⟨a0, a1⟩ := HD.out.ac
      have hne : (op == 0) = false := beq_eq_false_iff_ne.mpr HO.out
      obtain ⟨k0, k1, k2, k3, k4, k5, k6, k7, k8⟩ := HD.out.kc
      obtain ⟨A2, c2, ev2, _⟩ := HD.out.row.slice_
      have hlen : ((P.take j).map (rd_T27 l)).length = n := by have := HJ.out; have := hn'.out; simp; omega
      rw [hlen] at ev2
      subst ev2
      have hps : (P.take j).map (rd_T27 l) = P.map (rd_T27 l) := by have := HJ.out; have := hn'.out; rw [List.take_of_length_le (by omega)]
      have hC := Aside0.mk (HD.out.kids HS0.out).2.2
      rw [hps] at hC
      have hplen : (P.map (rd_T27 l)).length = n := by have := hn'.out; simp; omega
      rw [hplen] at hC
      go_wp2_with (go_at_call 41; refine (HM.out _ _ _ HD.out.below HD.out.big hC.out).mono ?_; rintro e w2 ⟨⟨u, pv, rfl⟩, hb⟩; have HD3 := Aside0.mk (HD.out.then_ hb); clear hb)
      refine leaves_cons (f := 38) (args := #[.pointer (some ⟨w.heap.size + 1 + 1, 0, none⟩), .pointer (some ⟨w.heap.size + 1 + 1 + 1, 0, none⟩)]) (by simp) (by simp [go_sem]) ?_
      refine (do1_panicking (w.heap.size + 1 + 1) u pv _ _ _ w2 HD3.out.vb HD3.out.ib).mono ?_
      rintro e u' w'' ⟨rfl, rfl, rfl⟩
      have hv1 := blk_set (blk_set HD3.out.vb 0 (.int .i64 0)) 1 (.slice none 0 0)
      have hV := blk_far (p := ⟨w.heap.size + 1 + 1 + 1, 0, none⟩) hv1 (by simp) (.bool false)
      have hI := blk_set (blk_far (p := ⟨w.heap.size + 1 + 1, 1, none⟩) (blk_far (p := ⟨w.heap.size + 1 + 1, 0, none⟩) HD3.out.ib (by simp) (.int .i64 0)) (by simp) (.slice none 0 0)) 0 (.bool false)
      have v0 := blk_cell hV 0
      have v1 := blk_cell hV 1
      have i0 := blk_cell hI 0
      have hG : GivesNot w (.returned (.tuple #[.agg #[.int .i64 0, .slice none 0 0], .bool false])) (((w2.setCell ⟨w.heap.size + 1 + 1, 0, none⟩ (.int .i64 0)).setCell ⟨w.heap.size + 1 + 1, 1, none⟩ (.slice none 0 0)).setCell ⟨w.heap.size + 1 + 1 + 1, 0, none⟩ (.bool false)) := ⟨rfl, below_set (below_set (below_set HD3.out.below (by omega)) (by omega)) (by omega)⟩
      clear hv1 hV hI
      simp [Leaves, settle, results, Try.results22, go_sem, v0, v1, i0]
      exact hG
end Ev.Do
end Go.Proofs.Ytldfljlklfhjkaa.PE
