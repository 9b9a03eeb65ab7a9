/- A part of the proof: Region. No condition. -/
import Derived.Deep.RegionHeld3
import Derived.Test.YtakjnmojigechaaGreatJA1

namespace Go.Proofs.YtakjnmojigechaaGreat
open Go.RowKit
structure Moves (R : World → World → Prop) : Prop where
  refl : ∀ w, R w w
  trans : ∀ a b c, R a b → R b c → R a c
def Later (w w' : World) : Prop := Below w.heap.size w w'
theorem later_moves : Moves Later := ⟨fun w => Below.refl _ w, fun _ _ _ h k => below_chain h k⟩
def Only (g : Nat) (w w' : World) : Prop := w.grownBy w' (some g)
theorem only_moves (g : Nat) : Moves (Only g) := ⟨fun w => grown_refl' w _, fun _ _ _ h k => grown_step h k fun _ e => .inl e⟩
section
variable {P : Program} {ops : Array Oper} {Q : Exit → Act → World → Prop} {R : World → World → Prop}
theorem wpAnyH_sub {S S' : World → Prop} (hS : ∀ w, S' w → S w) : ∀ (fuel : Nat) (listed : Array Bool) (a : Act) (w : World), wpAnyH P .any ops Q S' fuel listed a w → wpAnyH P .any ops Q S fuel listed a w
  | 0, _, _, _, h => h
  | fuel + 1, _, _, _, h => ⟨h.1, fun i hi => wpOp_mono (fun a' w' h' => ⟨hS _ h'.1, wpAnyH_sub hS fuel _ a' w' h'.2⟩) (h.2 i hi)⟩
def wpR (P : Program) (ops : Array Oper) (Q : Exit → Act → World → Prop) (R : World → World → Prop) (fuel : Nat) (listed : Array Bool) (a : Act) (w : World) : Prop :=
  wpAnyH P .any ops Q (R w) fuel listed a w
theorem wpR_begin {id : Nat} {a : Act} {w : World} {l : List Oper} (R : World → World → Prop) (hm : P.follows .mixedOrders = true) (h : wpR P l.toArray Q R l.length (List.replicate l.length false).toArray a w.drew) : (Code.region id l.toArray true).wp P Q a w := by
  refine wp_region_held (S := R w.drew) hm ?_
  have e : Array.replicate l.toArray.size false = (List.replicate l.length false).toArray := by simp
  rw [e]
  simpa [wpR] using h
theorem wpR_done {fuel : Nat} {listed : Array Bool} {a : Act} {w : World} (hr : Region.ready .any ops listed = []) (h : Q .normal a w) : wpR P ops Q R fuel listed a w := wpAnyH_done hr h fuel
end
section
variable {P : Program} {l : List Oper} {Q : Exit → Act → World → Prop} {R : World → World → Prop}
theorem wpR_take (i : Nat) {v : Value} {fuel : Nat} {listed : Array Bool} {a : Act} {w : World} (M : Moves R) (hlt : i < l.length)
    (hs : Region.noSelect l.toArray = true) (hf : Region.free .any l.toArray listed i = true) (hr : (Region.ready .any l.toArray listed).contains i = true)
    (hQ : ∀ c a w, Q (.panic c) (a.put l[i].dst v) w → Q (.panic c) a w)
    (hy : (Region.wanted l[i] (yielded l.toArray a.tmps) = true ∧ ∀ w', R w w' → (execOp a.eval l[i]).run P w' = .ok (.value v) w') ∨ (Region.wanted l[i] (yielded l.toArray a.tmps) = false ∧ v = undef))
    (h : wpR P l.toArray Q R fuel (listed.setIfInBounds i true) (a.put l[i].dst v) w) : wpR P l.toArray Q R (fuel + 1) listed a w :=
  wpAnyH_take (i := i) (oi := l[i]) (by simp [hlt]) hs hf hr hQ hy (M.refl w) h
theorem wpR_only (i : Nat) {fuel : Nat} {listed : Array Bool} {a : Act} {w : World} (M : Moves R) (hlt : i < l.length) (hr : Region.ready .any l.toArray listed = [i])
    (hw : Region.wanted l[i] (yielded l.toArray a.tmps) = true)
    (h : l[i].wp P a w (fun a' w' => R w w' ∧ wpR P l.toArray Q R fuel (listed.setIfInBounds i true) a' w') Q) : wpR P l.toArray Q R (fuel + 1) listed a w := by
  refine ⟨fun h0 => absurd (hr ▸ h0) (by simp), fun j hj => ?_⟩
  rw [hr, List.mem_singleton] at hj
  subst hj
  unfold wpOp
  have hi : l.toArray[j]? = some l[j] := by simp [hlt]
  simp only [hi, hw, if_true]
  exact .inl (Oper.wp_mono (fun a' w' h' => ⟨h'.1, wpAnyH_sub (fun w2 h2 => M.trans _ _ _ h'.1 h2) _ _ _ _ h'.2⟩) h)
theorem wpR_call (i : Nat) {f : FuncId} {vals : Array Value} {fuel : Nat} {listed : Array Bool} {a : Act} {w : World} (M : Moves R) (hlt : i < l.length) (hr : Region.ready .any l.toArray listed = [i])
    (hw : Region.wanted l[i] (yielded l.toArray a.tmps) = true)
    (h : Calls P f vals w fun e w' => ∃ v, e = .returned v ∧ R w w' ∧ wpR P l.toArray Q R fuel (listed.setIfInBounds i true) (a.put l[i].dst v) w')
    (hrun : ∀ w, (execOp a.eval l[i]).run P w = .ok (.enter f vals) w) : wpR P l.toArray Q R (fuel + 1) listed a w := by
  refine wpR_only i M hlt hr hw ?_
  unfold Oper.wp
  rw [hrun w]
  refine Calls.mono h ?_
  rintro e w' ⟨v, rfl, h1, h2⟩
  exact ⟨h1, h2⟩
end
section
variable {P : Program} {l : List Oper} {Q : Exit → Act → World → Prop} {R : World → World → Prop}
end
theorem wantedT {P : Program} {o : Oper} {ops : Array Oper} {a : Act} {v : Value} {R : World → World → Prop} {w : World} (hw : Region.wanted o (yielded ops a.tmps) = true) (h : ∀ w', R w w' → (execOp a.eval o).run P w' = .ok (.value v) w') :
    (Region.wanted o (yielded ops a.tmps) = true ∧ ∀ w', R w w' → (execOp a.eval o).run P w' = .ok (.value v) w') ∨ (Region.wanted o (yielded ops a.tmps) = false ∧ v = undef) := .inl ⟨hw, h⟩
end Go.Proofs.YtakjnmojigechaaGreat
