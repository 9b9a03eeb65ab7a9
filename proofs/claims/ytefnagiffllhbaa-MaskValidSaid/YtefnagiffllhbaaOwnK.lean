/-
  The rule of XOwn in use: reads first, the usual facts, one operation's task, the end.
-/
import Derived.Test.YtefnagiffllhbaaOwn
import Derived.Test.YtefnagiffllhbaaArr
namespace Go.Proofs.Ytefnagiffllhbaa
open Go.RowKit

/-- Nothing below block B has changed. -/
def From (B : Nat) (w w' : World) : Prop := Below B w w'
theorem from_moves (B : Nat) : Moves (From B) := ⟨fun w => Below.refl _ w, fun _ _ _ h k => Below.trans h k⟩
theorem from_cellsD {B : Nat} {w w' : World} (h : From B w.drew w') : ∀ b o, b < B → w'.cell? ⟨b, o, none⟩ = w.cell? ⟨b, o, none⟩ := fun b o hb => Below.cell h (p := ⟨b, o, none⟩) hb
theorem from_later {B : Nat} {w w' : World} (h : Below w.heap.size w w') (hB : B ≤ w.heap.size) : From B w w' := h.mono hB
theorem from_set {B : Nat} (w : World) {g i : Nat} (v : Value) (hg : B ≤ g) : From B w (w.setCell ⟨g, i, none⟩ v) := (Below.refl B w).setCell (p := ⟨g, i, none⟩) hg v

/-- Reads in one order, ahead of all else. -/
def okL (l : List Oper) : List Nat → Array Bool → Bool
  | [], _ => true
  | i :: rest, listed => decide (i < l.length) && Region.free .any l.toArray listed i && (Region.ready .any l.toArray listed).contains i && okL l rest (listed.setIfInBounds i true)
def wpL (P : Program) (l : List Oper) (Q : Exit → Act → World → Prop) (R : World → World → Prop) (order : List Nat) (fuel : Nat) (listed : Array Bool) (a : Act) (w : World) : Prop :=
  Region.noSelect l.toArray = true → okL l order listed = true → wpR P l.toArray Q R (order.length + fuel) listed a w
section
variable {P : Program} {l : List Oper} {Q : Exit → Act → World → Prop} {R : World → World → Prop} {rest : List Nat} {fuel i : Nat} {o : Oper} {listed : Array Bool} {a : Act} {w : World}
theorem wpL_begin {id : Nat} (R : World → World → Prop) (order : List Nat) (fuel : Nat) (hm : P.follows .mixedOrders = true) (hok : (Region.noSelect l.toArray && order.length + fuel == l.length && okL l order (List.replicate l.length false).toArray) = true)
    (h : wpL P l Q R order fuel (List.replicate l.length false).toArray a w.drew) : (Code.region id l.toArray true).wp P Q a w := by
  simp only [Bool.and_eq_true, beq_iff_eq] at hok
  refine wpR_begin R hm ?_
  rw [← hok.1.2]
  have := h hok.1.1 hok.2
  rwa [hok.1.2] at this ⊢
theorem wpL_startK (M : Moves R) {order : List Nat} (h : ∀ W, Hid (W = w) → R w W → wpL P l Q R order fuel listed a W) : wpL P l Q R order fuel listed a w := h w rfl (M.refl w)
theorem wpL_start (M : Moves R) {order : List Nat} (h : ∀ W, R w W → wpL P l Q R order fuel listed a W) : wpL P l Q R order fuel listed a w := h w (M.refl w)
theorem okL_cons (h : okL l (i :: rest) listed = true) : i < l.length ∧ Region.free .any l.toArray listed i = true ∧ (Region.ready .any l.toArray listed).contains i = true ∧ okL l rest (listed.setIfInBounds i true) = true := by
  unfold okL at h
  simp only [Bool.and_eq_true, decide_eq_true_eq] at h
  obtain ⟨⟨⟨h1, h2⟩, h3⟩, h4⟩ := h
  exact ⟨h1, h2, h3, h4⟩
theorem wpL_light {v : Value} (M : Moves R) (ho : l[i]? = some o) (hw : Region.wanted o (yielded l.toArray a.tmps) = true) (hQ : ∀ c a w, Q (.panic c) (a.put o.dst v) w → Q (.panic c) a w)
    (hrun : ∀ w', R w w' → (execOp a.eval o).run P w' = .ok (.value v) w') (h : wpL P l Q R rest fuel (listed.setIfInBounds i true) (a.put o.dst v) w) : wpL P l Q R (i :: rest) fuel listed a w := by
  intro hn hok
  obtain ⟨h1, h2, h3, h5⟩ := okL_cons hok
  have e := get_of (h := h1) ho
  subst e
  have := wpR_take (fuel := rest.length + fuel) i M h1 hn h2 h3 hQ (.inl ⟨hw, hrun⟩) (h hn h5)
  rw [List.length_cons, show rest.length + 1 + fuel = rest.length + fuel + 1 by omega]
  exact this
theorem wpL_skip (M : Moves R) (ho : l[i]? = some o) (hw : Region.wanted o (yielded l.toArray a.tmps) = false) (hQ : ∀ c a w, Q (.panic c) (a.put o.dst undef) w → Q (.panic c) a w)
    (h : wpL P l Q R rest fuel (listed.setIfInBounds i true) (a.put o.dst undef) w) : wpL P l Q R (i :: rest) fuel listed a w := by
  intro hn hok
  obtain ⟨h1, h2, h3, h5⟩ := okL_cons hok
  have e := get_of (h := h1) ho
  subst e
  have := wpR_take (fuel := rest.length + fuel) i M h1 hn h2 h3 hQ (.inr ⟨hw, rfl⟩) (h hn h5)
  rw [List.length_cons, show rest.length + 1 + fuel = rest.length + fuel + 1 by omega]
  exact this
theorem wpR_tail (hs order : List Nat) (hok : (Region.noSelect l.toArray && okOrd l hs order listed) = true) (h : wpO P l hs Q R order listed a w) : wpR P l.toArray Q R order.length listed a w := by
  rw [Bool.and_eq_true] at hok
  exact h hok.1 hok.2
end

/-- The act behind some operations: their slots and numbers. -/
def puts (a : Act) (vs : Nat → Value) (js : List (Option Tmp × Nat)) : Act := js.foldl (fun a j => a.put j.1 (vs j.2)) a
theorem puts_putAll (l : List Oper) (vs : Nat → Value) : ∀ (js : List Nat) (a : Act), putAll l vs a js = puts a vs (js.map fun j => (dstOf l j, j))
  | [], _ => rfl
  | _ :: js, _ => puts_putAll l vs js _

section
variable {P : Program} {l : List Oper} {Q : Exit → Act → World → Prop} {R : World → World → Prop} {T : List Step} {ps : List (Nat × Fact)} {B : Nat} {w0 : World} {a0 : Act} {L0 : Array Bool}
abbrev NoX : Nat → Prop := fun _ => False
theorem eff_below {B : Nat} {w w' : World} : Eff B NoX w w' ↔ Below B w w' := ⟨fun h => ⟨h.1, h.2.1, h.2.2.1, h.2.2.2.1, fun b hb => h.2.2.2.2 b hb id⟩, fun h => ⟨h.os, h.tape, h.output, h.size, fun b hb _ => h.block b hb⟩⟩
/-- What belongs to the operation behind a run. -/
def Grown (w w' : World) (F : Nat → Nat → Prop) (eat : List Nat) : Nat → Prop := fun b => (w.heap.size ≤ b ∧ b < w'.heap.size) ∨ ∃ j ∈ eat, F j b
/-- Nothing has changed but what is new and what is taken over. -/
def Near (B : Nat) (w w' : World) (F : Nat → Nat → Prop) (eat : List Nat) : Prop := Below B w w' ∧ ∀ b, b < w.heap.size → (∀ j ∈ eat, ¬ F j b) → w'.heap[b]? = w.heap[b]?
theorem near_same (B : Nat) (w : World) (F : Nat → Nat → Prop) (eat : List Nat) : Near B w w F eat := ⟨Below.refl _ _, fun _ _ _ => rfl⟩
theorem near_below {B : Nat} {w w' : World} (h : Below w.heap.size w w') (hB : B ≤ w.heap.size) (F : Nat → Nat → Prop) (eat : List Nat) : Near B w w' F eat := ⟨h.mono hB, fun b hb _ => h.block b hb⟩
theorem near_grown {B g : Nat} {w w' : World} {F : Nat → Nat → Prop} {eat : List Nat} (h : w.grownBy w' (some g)) (hg : B ≤ g) (hB : B ≤ w.heap.size) {j : Nat} (hj : j ∈ eat) (hF : F j g) : Near B w w' F eat :=
  ⟨below_of_only h hB hg, fun b hb hn => h.block b hb fun e => hn j hj (by rw [Option.some.inj e]; exact hF)⟩
/-- The group's rule where nothing old is written. -/
theorem wpL_own (M : Moves R) (T : List Step) (ps : List (Nat × Fact)) (js : List (Option Tmp × Nat)) (hs tail : List Nat) {fuel : Nat} (hn : Region.noSelect l.toArray = true)
    (hok : (okOwn l T L0 && (T.all fun s => decide (s.i < l.length)) && decide (T.length + tail.length = fuel) && okOrd l hs tail (allUp T L0) && (((T.map (·.i)).map fun j => (dstOf l j, j)) == js)) = true)
    (hB : B ≤ w0.heap.size) (hR : ∀ w', Below B w0 w' → R w0 w') (hst : ∀ s ∈ T, Stays (pick ps) B NoX w0 s) (htask : ∀ s ∈ T, Task P l (pick ps) B NoX w0 a0 s)
    (hfin : ∀ (w : World) (vs : Nat → Value) (F : Nat → Nat → Prop), Below B w0 w → (∀ s ∈ T, (∀ k ∈ T, s.i ∉ k.eat) → pick ps s.i vs (F s.i) w ∧ ∀ b, F s.i b → b < w.heap.size ∧ B ≤ b) → (∀ j k b, j ≠ k → F j b → ¬ F k b) →
      wpO P l hs Q R tail (allUp T L0) (puts a0 vs js) w) : wpL P l Q R [] fuel L0 a0 w0 := by
  intro _ _
  simp only [Bool.and_eq_true, beq_iff_eq, decide_eq_true_eq] at hok
  obtain ⟨⟨⟨⟨h1, h2⟩, h3⟩, h4⟩, h5⟩ := hok
  rw [List.all_eq_true] at h2
  have ok := okOwn_spec h1
  have hlt : ∀ s ∈ T, s.i < l.length := fun s hs => by simpa using h2 s hs
  have hall : ∀ s ∈ T, L0.getD s.i true = false := fun s hs => (okTopo_spec _ _ ok.topo _ (List.mem_map.2 ⟨s, hs, rfl⟩) _ (List.getElem?_eq_getElem (hlt s hs))).2
  rw [List.length_nil, Nat.zero_add]
  refine wpR_own (X := NoX) (fr := tail.length) M hn h1 hB (fun w' h => hR w' (eff_below.1 h)) (fun _ => undef) (fun _ => l.length) (fun _ _ => Nat.le_refl _) (fun s hs h => absurd (hlt s hs) (Nat.not_lt.2 h)) hst htask ?_ fun w vs F he hf hd => ?_
  · rw [List.filter_eq_self.2 fun s hs => by rw [hall s hs]; rfl]
    exact h3
  · have e : (T.map (·.i)).filter (· < l.length) = T.map (·.i) := List.filter_eq_self.2 fun j hj => by
      obtain ⟨s, hs, rfl⟩ := List.mem_map.1 hj
      simpa using hlt s hs
    rw [e, puts_putAll, h5]
    exact hfin w vs F (eff_below.1 he) (fun s hs hne => ⟨(hf s hs hne).1, fun b hb => ⟨((hf s hs hne).2 b hb).1, ((hf s hs hne).2 b hb).2.resolve_right id⟩⟩) hd hn h4
/-- One operation's task, with its act written out. -/
theorem task_mk {s : Step} {o : Oper} (js : List (Option Tmp × Nat)) (ho : l[s.i]? = some o) (hjs : ((s.deps.filter (· < l.length)).map fun j => (dstOf l j, j)) = js)
    (h : ∀ (w : World) (vs : Nat → Value) (F : Nat → Nat → Prop), Below B w0 w → (∀ j ∈ s.deps, pick ps j vs (F j) w ∧ ∀ b, F j b → b < w.heap.size ∧ B ≤ b) → (∀ j k b, j ≠ k → F j b → ¬ F k b) →
      Does P (execOp (puts a0 vs js).eval o) w fun v w' => Near B w w' F s.eat ∧ pick ps s.i (upd vs s.i v) (Grown w w' F s.eat) w') : Task P l (pick ps) B NoX w0 a0 s := by
  intro o' ho' w vs F he hd hdis
  rw [ho] at ho'
  obtain rfl := Option.some.inj ho'
  rw [puts_putAll, hjs]
  refine does_mono ?_ (h w vs F (eff_below.1 he) (fun j hj => ⟨(hd j hj).1, fun b hb => ⟨((hd j hj).2 b hb).1, ((hd j hj).2 b hb).2.resolve_right id⟩⟩) hdis)
  rintro v w' ⟨h1, h2⟩
  exact ⟨eff_below.2 h1.1, h1.2, h2⟩
end

/-- The value is known, given those of other operations. -/
def ValAt (f : (Nat → Value) → Value) (i : Nat) : Fact := fun vs _ _ => vs i = f vs
/-- A block of its own, with these cells. -/
def BlkAt (t : TypeId) (cs : (Nat → Value) → Array Value) (mk : Nat → Value) (i : Nat) : Fact := fun vs F w => ∃ g, vs i = mk g ∧ F g ∧ Blk w g t (cs vs)
/-- A row of its own. -/
def RowAt (t : TypeId) (n : Nat) (xs : List Value) (i : Nat) : Fact := fun vs F w => ∃ A c, vs i = .slice A n c ∧ w.ownsRow 0 t 1 (.slice A n c) n xs ∧ ∀ g, (Value.slice A n c).ownBlock = some g → F g
abbrev mkS (n : Nat) : Nat → Value := fun g => .slice (some ⟨g, 0, none⟩) n n
abbrev mkP : Nat → Value := fun g => .pointer (some ⟨g, 0, none⟩)
section
variable {p : Nat → Fact} {B : Nat} {X : Nat → Prop} {w0 : World} {s : Step}
theorem stays_val {f : (Nat → Value) → Value} (hp : p s.i = ValAt f s.i) (hf : ∀ vs us : Nat → Value, (∀ m ∈ s.deps, us m = vs m) → f us = f vs) : Stays p B X w0 s := by
  intro vs us F w w' _ _ h _ _ hv
  rw [hp] at hv ⊢
  unfold ValAt at *
  rw [h _ (by simp), hv, hf vs us fun m hm => h m (by simp [hm])]
theorem stays_const {v : Value} (hp : p s.i = ValAt (fun _ => v) s.i) : Stays p B X w0 s := stays_val hp fun _ _ _ => rfl
theorem stays_blk {t : TypeId} {cs : (Nat → Value) → Array Value} {mk : Nat → Value} (hp : p s.i = BlkAt t cs mk s.i) (hf : ∀ vs us : Nat → Value, (∀ m ∈ s.deps, us m = vs m) → cs us = cs vs) : Stays p B X w0 s := by
  intro vs us F w w' _ _ h _ hk hv
  rw [hp] at hv ⊢
  obtain ⟨g, h1, h2, h3⟩ := hv
  exact ⟨g, by rw [h _ (by simp), h1], h2, by rw [hf vs us fun m hm => h m (by simp [hm])]; exact (hk g h2).trans h3⟩
theorem stays_blkc {t : TypeId} {cs : Array Value} {mk : Nat → Value} (hp : p s.i = BlkAt t (fun _ => cs) mk s.i) : Stays p B X w0 s := stays_blk hp fun _ _ _ => rfl
theorem stays_row {t : TypeId} {n : Nat} {xs : List Value} (hp : p s.i = RowAt t n xs s.i) : Stays p B X w0 s := by
  intro vs us F w w' _ _ h _ hk hv
  rw [hp] at hv ⊢
  obtain ⟨A, c, h1, ⟨h2, h3⟩, h4⟩ := hv
  refine ⟨A, c, by rw [h _ (by simp), h1], ⟨h2, ?_⟩, h4⟩
  rcases h3 with h3 | ⟨g, cap, cur, hv, hg, hh, r⟩
  · exact .inl h3
  · exact .inr ⟨g, cap, cur, hv, hg, by rw [hk g (h4 g (by rw [hv]; rfl))]; exact hh, r⟩
theorem row_of {w w' : World} {t : TypeId} {n : Nat} {xs : List Value} {v : Value} {F : Nat → Nat → Prop} {eat : List Nat} {vs : Nat → Value} {i : Nat} (h : w'.ownsRow w.heap.size t 1 v n xs) : RowAt t n xs i (upd vs i v) (Grown w w' F eat) w' := by
  obtain ⟨A, c, rfl, -⟩ := own_form h
  exact ⟨A, c, upd_self _ _ _, own_base h (Nat.zero_le _), fun g e => .inl (h.lt g e)⟩
theorem blk_of {w w' : World} {t : TypeId} {cs : (Nat → Value) → Array Value} {mk : Nat → Value} {F : Nat → Nat → Prop} {eat : List Nat} {vs : Nat → Value} {i g : Nat} (h : Blk w' g t (cs (upd vs i (mk g)))) (hg : w.heap.size ≤ g) : BlkAt t cs mk i (upd vs i (mk g)) (Grown w w' F eat) w' :=
  ⟨g, upd_self _ _ _, .inl ⟨hg, h.lt⟩, h⟩
end
end Go.Proofs.Ytefnagiffllhbaa

