/-
  A region that draws its order, walked in one order: whatever only reads is taken first, in every world that the region may still come to; the calls come one after another.
-/
import Derived.Test.YtefnagiffllhbaaWords
import Derived.Deep.RegionHeld3
namespace Go.Proofs.Ytefnagiffllhbaa
open Go.RowKit

/-- How the world may move on inside the region. -/
structure Moves (R : World → World → Prop) : Prop where
  refl : ∀ w, R w w
  trans : ∀ a b c, R a b → R b c → R a c

/-- Nothing that was there has changed. -/
def Later (w w' : World) : Prop := Below w.heap.size w w'
theorem later_moves : Moves Later := ⟨fun w => Below.refl _ w, fun _ _ _ h k => below_chain h k⟩

/-- Only block g has changed, of what was there. -/
def Only (g : Nat) (w w' : World) : Prop := w.grownBy w' (some g)
theorem only_moves (g : Nat) : Moves (Only g) := ⟨fun w => grown_refl' w _, fun _ _ _ h k => grown_step h k fun _ e => .inl e⟩

section
variable {P : Program} {ops : Array Oper} {Q : Exit → Act → World → Prop} {R : World → World → Prop}

theorem wpAnyH_sub {S S' : World → Prop} (hS : ∀ w, S' w → S w) : ∀ (fuel : Nat) (listed : Array Bool) (a : Act) (w : World), wpAnyH P .any ops Q S' fuel listed a w → wpAnyH P .any ops Q S fuel listed a w
  | 0, _, _, _, h => h
  | fuel + 1, _, _, _, h => ⟨h.1, fun i hi => wpOp_mono (fun a' w' h' => ⟨hS _ h'.1, wpAnyH_sub hS fuel _ a' w' h'.2⟩) (h.2 i hi)⟩

/-- The rest of the region, from the world w on: whatever order is picked. -/
def wpR (P : Program) (ops : Array Oper) (Q : Exit → Act → World → Prop) (R : World → World → Prop) (fuel : Nat) (listed : Array Bool) (a : Act) (w : World) : Prop :=
  wpAnyH P .any ops Q (R w) fuel listed a w

theorem wpR_begin {id : Nat} {a : Act} {w : World} {l : List Oper} (R : World → World → Prop) (hm : P.follows .mixedOrders = true) (h : wpR P l.toArray Q R l.length (List.replicate l.length false).toArray a w.drew) : (Code.region id l.toArray true).wp P Q a w := by
  refine wp_region_held (S := R w.drew) hm ?_
  have e : Array.replicate l.toArray.size false = (List.replicate l.length false).toArray := by simp
  rw [e]
  simpa [wpR] using h

theorem wpR_done {fuel : Nat} {listed : Array Bool} {a : Act} {w : World} (hr : Region.ready .any ops listed = []) (h : Q .normal a w) : wpR P ops Q R fuel listed a w := wpAnyH_done hr h fuel
end

section
variable {P : Program} {l : List Oper} {Q : Exit → Act → World → Prop} {R : World → World → Prop}
/-- One operation that only reads is taken first: it yields v in every world that the region may come to from here on. -/
theorem wpR_take (i : Nat) {v : Value} {fuel : Nat} {listed : Array Bool} {a : Act} {w : World} (M : Moves R) (hlt : i < l.length)
    (hs : Region.noSelect l.toArray = true) (hf : Region.free .any l.toArray listed i = true) (hr : (Region.ready .any l.toArray listed).contains i = true)
    (hQ : ∀ c a w, Q (.panic c) (a.put l[i].dst v) w → Q (.panic c) a w)
    (hy : (Region.wanted l[i] (yielded l.toArray a.tmps) = true ∧ ∀ w', R w w' → (execOp a.eval l[i]).run P w' = .ok (.value v) w') ∨ (Region.wanted l[i] (yielded l.toArray a.tmps) = false ∧ v = undef))
    (h : wpR P l.toArray Q R fuel (listed.setIfInBounds i true) (a.put l[i].dst v) w) : wpR P l.toArray Q R (fuel + 1) listed a w :=
  wpAnyH_take (i := i) (oi := l[i]) (by simp [hlt]) hs hf hr hQ hy (M.refl w) h

/-- One operation that alone may come up. -/
theorem wpR_only (i : Nat) {fuel : Nat} {listed : Array Bool} {a : Act} {w : World} (M : Moves R) (hlt : i < l.length) (hr : Region.ready .any l.toArray listed = [i])
    (hw : Region.wanted l[i] (yielded l.toArray a.tmps) = true)
    (h : l[i].wp P a w (fun a' w' => R w w' ∧ wpR P l.toArray Q R fuel (listed.setIfInBounds i true) a' w') Q) : wpR P l.toArray Q R (fuel + 1) listed a w := by
  refine ⟨fun h0 => absurd (hr ▸ h0) (by simp), fun j hj => ?_⟩
  rw [hr, List.mem_singleton] at hj
  subst hj
  unfold wpOp
  have hi : l.toArray[j]? = some l[j] := by simp [hlt]
  simp only [hi, hw, if_true]
  exact .inl (Oper.wp_mono (fun a' w' h' => ⟨h'.1, wpAnyH_sub (fun w2 h2 => M.trans _ _ _ h'.1 h2) _ _ _ _ h'.2⟩) h)

/-- A call of a Go function that alone may come up. -/
theorem wpR_call (i : Nat) {f : FuncId} {vals : Array Value} {fuel : Nat} {listed : Array Bool} {a : Act} {w : World} (M : Moves R) (hlt : i < l.length) (hr : Region.ready .any l.toArray listed = [i])
    (hw : Region.wanted l[i] (yielded l.toArray a.tmps) = true)
    (h : Calls P f vals w fun e w' => ∃ v, e = .returned v ∧ R w w' ∧ wpR P l.toArray Q R fuel (listed.setIfInBounds i true) (a.put l[i].dst v) w')
    (hrun : ∀ w, (execOp a.eval l[i]).run P w = .ok (.enter f vals) w) : wpR P l.toArray Q R (fuel + 1) listed a w := by
  refine wpR_only i M hlt hr hw ?_
  unfold Oper.wp
  rw [hrun w]
  refine Calls.mono h ?_
  rintro e w' ⟨v, rfl, h1, h2⟩
  exact ⟨h1, h2⟩
end

section
variable {P : Program} {l : List Oper} {Q : Exit → Act → World → Prop} {R : World → World → Prop}
/-- Operation i is carried out here, and the region goes on. -/
def wpS (P : Program) (l : List Oper) (Q : Exit → Act → World → Prop) (R : World → World → Prop) (i : Nat) (fuel : Nat) (listed : Array Bool) (a : Act) (w : World) : Prop :=
  ∃ (h : i < l.length), Region.wanted l[i] (yielded l.toArray a.tmps) = true ∧ l[i].wp P a w (fun a' w' => R w w' ∧ wpR P l.toArray Q R fuel (listed.setIfInBounds i true) a' w') Q
theorem wpS_op {i fuel : Nat} {listed : Array Bool} {a : Act} {w : World} (M : Moves R) (h : wpS P l Q R i fuel listed a w) : wpOp P l.toArray Q i (fun a' w' => R w w' ∧ wpAnyH P .any l.toArray Q (R w) fuel (listed.setIfInBounds i true) a' w') a w := by
  obtain ⟨hlt, hw, h⟩ := h
  unfold wpOp
  have hi : l.toArray[i]? = some l[i] := by simp [hlt]
  simp only [hi, hw, if_true]
  exact .inl (Oper.wp_mono (fun a' w' h' => ⟨h'.1, wpAnyH_sub (fun w2 h2 => M.trans _ _ _ h'.1 h2) _ _ _ _ h'.2⟩) h)
theorem wpR_two (i j : Nat) {fuel : Nat} {listed : Array Bool} {a : Act} {w : World} (M : Moves R) (hr : Region.ready .any l.toArray listed = [i, j])
    (h1 : wpS P l Q R i fuel listed a w) (h2 : wpS P l Q R j fuel listed a w) : wpR P l.toArray Q R (fuel + 1) listed a w := by
  refine ⟨fun h0 => absurd (hr ▸ h0) (by simp), fun k hk => ?_⟩
  rw [hr] at hk
  simp at hk
  rcases hk with rfl | rfl
  · exact wpS_op M h1
  · exact wpS_op M h2
theorem wpR_one (i : Nat) {fuel : Nat} {listed : Array Bool} {a : Act} {w : World} (M : Moves R) (hr : Region.ready .any l.toArray listed = [i])
    (h1 : wpS P l Q R i fuel listed a w) : wpR P l.toArray Q R (fuel + 1) listed a w := by
  refine ⟨fun h0 => absurd (hr ▸ h0) (by simp), fun k hk => ?_⟩
  rw [hr] at hk
  simp at hk
  subst hk
  exact wpS_op M h1
theorem wpS_read {i : Nat} {v : Value} {fuel : Nat} {listed : Array Bool} {a : Act} {w : World} (M : Moves R) (hlt : i < l.length) (hw : Region.wanted l[i] (yielded l.toArray a.tmps) = true)
    (hrun : (execOp a.eval l[i]).run P w = .ok (.value v) w) (h : wpR P l.toArray Q R fuel (listed.setIfInBounds i true) (a.put l[i].dst v) w) : wpS P l Q R i fuel listed a w := by
  refine ⟨hlt, hw, ?_⟩
  unfold Oper.wp
  rw [hrun]
  exact ⟨M.refl w, h⟩
theorem wpS_call {i : Nat} {f : FuncId} {vals : Array Value} {fuel : Nat} {listed : Array Bool} {a : Act} {w : World} (hlt : i < l.length) (hw : Region.wanted l[i] (yielded l.toArray a.tmps) = true)
    (h : Calls P f vals w fun e w' => ∃ v, e = .returned v ∧ R w w' ∧ wpR P l.toArray Q R fuel (listed.setIfInBounds i true) (a.put l[i].dst v) w')
    (hrun : ∀ w, (execOp a.eval l[i]).run P w = .ok (.enter f vals) w) : wpS P l Q R i fuel listed a w := by
  refine ⟨hlt, hw, ?_⟩
  unfold Oper.wp
  rw [hrun w]
  refine Calls.mono h ?_
  rintro e w' ⟨v, rfl, h1, h2⟩
  exact ⟨h1, h2⟩
end

theorem wantedT {P : Program} {o : Oper} {ops : Array Oper} {a : Act} {v : Value} {R : World → World → Prop} {w : World} (hw : Region.wanted o (yielded ops a.tmps) = true) (h : ∀ w', R w w' → (execOp a.eval o).run P w' = .ok (.value v) w') :
    (Region.wanted o (yielded ops a.tmps) = true ∧ ∀ w', R w w' → (execOp a.eval o).run P w' = .ok (.value v) w') ∨ (Region.wanted o (yielded ops a.tmps) = false ∧ v = undef) := .inl ⟨hw, h⟩
theorem wantedF {P : Program} {o : Oper} {ops : Array Oper} {a : Act} {R : World → World → Prop} {w : World} (hw : Region.wanted o (yielded ops a.tmps) = false) :
    (Region.wanted o (yielded ops a.tmps) = true ∧ ∀ w', R w w' → (execOp a.eval o).run P w' = .ok (.value undef) w') ∨ (Region.wanted o (yielded ops a.tmps) = false ∧ undef = undef) := .inr ⟨hw, rfl⟩

/-- 's[l:h]' as one operation. -/
theorem run_cut {P : Program} {w : World} {t e : TypeId} {size bytes : Nat} {z : Value} (E : Elem P t e size bytes z) (A : Option Addr) (n c l h : Nat) (hlh : l ≤ h) (hc : h ≤ c) :
    (Instr.slice t (.slice A n c) (some (.int .i64 (l : Int))) (some (.int .i64 (h : Int))) none).run P w = .ok (.slice (if c = l then A else A.map (·.add (l * size))) (h - l) (c - l)) w := by
  obtain ⟨ht, ⟨i, hi, hz, hs, hby⟩, hzs, hsz⟩ := E
  have he : P.elem t = e := by simp [Program.elem, ht]
  rw [run_slice_lh (P := P) w t A n c (by rw [he]; exact ht) .i64 .i64 (l : Int) (h : Int) (by omega) (by omega) (by omega), he]
  simp [sizeOf, typeInfo, hi, hs, sliced, Result.andThen]
theorem run_cut_hi {P : Program} {w : World} {t e : TypeId} {size bytes : Nat} {z : Value} (E : Elem P t e size bytes z) (A : Option Addr) (n c h : Nat) (hc : h ≤ c) :
    (Instr.slice t (.slice A n c) none (some (.int .i64 (h : Int))) none).run P w = .ok (.slice A h c) w := by
  obtain ⟨ht, ⟨i, hi, hz, hs, hby⟩, hzs, hsz⟩ := E
  have he : P.elem t = e := by simp [Program.elem, ht]
  rw [run_slice_h (P := P) w t A n c (by rw [he]; exact ht) .i64 (h : Int) (by omega) (by omega), he]
  cases A <;> simp [sizeOf, typeInfo, hi, sliced, Result.andThen, Addr.add]
theorem run_cut_lo {P : Program} {w : World} {t e : TypeId} {size bytes : Nat} {z : Value} (E : Elem P t e size bytes z) (A : Option Addr) (n c l : Nat) (hc : l ≤ n) :
    (Instr.slice t (.slice A n c) (some (.int .i64 (l : Int))) none none).run P w = .ok (.slice (if c = l then A else A.map (·.add (l * size))) (n - l) (c - l)) w := by
  obtain ⟨ht, ⟨i, hi, hz, hs, hby⟩, hzs, hsz⟩ := E
  have he : P.elem t = e := by simp [Program.elem, ht]
  rw [run_slice_l (P := P) w t A n c (by rw [he]; exact ht) .i64 (l : Int) (by omega) (by omega), he]
  simp [sizeOf, typeInfo, hi, hs, sliced, Result.andThen]
theorem cut_op {P : Program} {w : World} {t e : TypeId} {size bytes : Nat} {z : Value} {o : Oper} {ρ : Operand → Value} {x lo hi : Operand} (E : Elem P t e size bytes z) {A : Option Addr} {n c : Nat} (l h : Nat) {L H : Int}
    (ho : o.op = .slice t x (some lo) (some hi) none) (hx : ρ x = .slice A n c) (hl : ρ lo = .int .i64 L) (hh : ρ hi = .int .i64 H) (eL : L = (l : Int)) (eH : H = (h : Int)) (hlh : l ≤ h) (hc : h ≤ c) :
    (execOp ρ o).run P w = .ok (.value (.slice (if c = l then A else A.map (·.add (l * size))) (h - l) (c - l))) w := by
  subst eL eH
  have hr := run_cut (w := w) E A n c l h hlh hc
  have hsa : (Instr.sliceAt t (.slice A n c) (some (.int .i64 (l : Int))) (some (.int .i64 (h : Int))) none).run P w = (Instr.slice t (.slice A n c) (some (.int .i64 (l : Int))) (some (.int .i64 (h : Int))) none).run P w := by
    have he : P.elem t = e := by simp [Program.elem, E.1]
    exact run_sliceAt_slice (P := P) w t _ _ _ _ (by rw [he]; exact E.1)
  unfold execOp
  simp only [ho]
  simp [hx, hl, hh, hsa, hr, Result.andThen]
end Go.Proofs.Ytefnagiffllhbaa

