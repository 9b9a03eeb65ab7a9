/-
  More of drawn regions: everything below one block number stays. Slices cut out of a list of words.
-/
import Derived.Test.YtkaecidnkkcbaaaPrK
namespace Go.Proofs.Ytkaecidnkkcbaaa
open Go.RowKit

/-- Nothing below block B has changed. -/
def From (B : Nat) (w w' : World) : Prop := Below B w w'
theorem from_moves (B : Nat) : Moves (From B) := ⟨fun w => Below.refl _ w, fun _ _ _ h k => Below.trans h k⟩
theorem from_cellsD {B : Nat} {w w' : World} (h : From B w.drew w') : ∀ b o, b < B → w'.cell? ⟨b, o, none⟩ = w.cell? ⟨b, o, none⟩ := fun b o hb => Below.cell h (p := ⟨b, o, none⟩) hb
theorem from_later {B : Nat} {w w' : World} (h : Below w.heap.size w w') (hB : B ≤ w.heap.size) : From B w w' := h.mono hB
theorem from_set {B : Nat} (w : World) {g i : Nat} (v : Value) (hg : B ≤ g) : From B w (w.setCell ⟨g, i, none⟩ v) := (Below.refl B w).setCell (p := ⟨g, i, none⟩) hg v

/-- A part of a list of words, as a slice expression gives it. -/
theorem words_cut {w : World} {A : Option Addr} {n c : Nat} {x : List Nat} (h : RWd w [.slice A n c] x) (l k : Nat) (hlk : l + k ≤ x.length) :
    ∃ A', sliced A l (l + k) c 1 = .slice A' k (c - l) ∧ RWd w [.slice A' k (c - l)] ((x.drop l).take k) := by
  obtain ⟨rfl, h1, h2, h3, hrd⟩ := word_at h
  refine ⟨if c = l then A else A.map (·.add (l * 1)), by simp [sliced], _, _, _, rfl, by omega, by omega, ?_, fun y hy => h3 y (List.mem_of_mem_drop (List.mem_of_mem_take hy))⟩
  have hc := (hrd.cut (k := l) (by omega) h1).take (k := k) (by omega)
  have e : U64 ((x.drop l).take k) = ((U64 x).drop (l * 1)).take (k * 1) := by simp [U64]
  rw [e]
  exact hc
theorem words_from {w : World} {A : Option Addr} {n c : Nat} {x : List Nat} (h : RWd w [.slice A n c] x) (l : Nat) (hl : l ≤ x.length) :
    ∃ A', sliced A l n c 1 = .slice A' (n - l) (c - l) ∧ RWd w [.slice A' (n - l) (c - l)] (x.drop l) := by
  have hn := (word_at h).1
  obtain ⟨A', h1, h2⟩ := words_cut h l (n - l) (by omega)
  refine ⟨A', ?_, ?_⟩
  · rw [show l + (n - l) = n by omega] at h1
    exact h1
  · rwa [List.take_of_length_le (by rw [List.length_drop]; omega)] at h2
section
variable {P : Program} {l : List Oper} {hs : List Nat} {Q : Exit → Act → World → Prop} {R : World → World → Prop} {rest : List Nat} {listed : Array Bool} {a : Act} {w w1 : World}
theorem wpS_run {i : Nat} {v : Value} {fuel : Nat} (hlt : i < l.length) (hw : Region.wanted l[i] (yielded l.toArray a.tmps) = true)
    (hrun : (execOp a.eval l[i]).run P w = .ok (.value v) w1) (hR : R w w1) (h : wpR P l.toArray Q R fuel (listed.setIfInBounds i true) (a.put l[i].dst v) w1) : wpS P l Q R i fuel listed a w := by
  refine ⟨hlt, hw, ?_⟩
  unfold Oper.wp
  rw [hrun]
  exact ⟨hR, h⟩
/-- A read and an operation that makes memory, in either order. -/
theorem wpO_pair {i j : Nat} {oi oj : Oper} {v u : Value} (M : Moves R) (hr : Region.ready .any l.toArray listed = [i, j] ∨ Region.ready .any l.toArray listed = [j, i]) (hr2 : Region.ready .any l.toArray (listed.setIfInBounds j true) = [i]) (hh : hs.contains j = true)
    (hij : i ≠ j) (hoi : l[i]? = some oi) (hoj : l[j]? = some oj) (gi : oi.guard = none) (gj : oj.guard = none)
    (hi : (execOp a.eval oi).run P w = .ok (.value v) w) (hj2 : (execOp (a.put oi.dst v).eval oj).run P w = .ok (.value u) w1)
    (hj : (execOp a.eval oj).run P w = .ok (.value u) w1) (hi2 : (execOp (a.put oj.dst u).eval oi).run P w1 = .ok (.value v) w1) (hR : R w w1)
    (hc : (a.put oj.dst u).put oi.dst v = (a.put oi.dst v).put oj.dst u)
    (h : wpO P l hs Q R rest ((listed.setIfInBounds i true).setIfInBounds j true) ((a.put oi.dst v).put oj.dst u) w1) : wpO P l hs Q R (i :: j :: rest) listed a w := by
  intro hn hok
  obtain ⟨h1, -, -, -, h5⟩ := okOrd_cons hok
  obtain ⟨k1, -, -, k4, k5⟩ := okOrd_cons h5
  have e := get_of (h := h1) hoi
  have e' := get_of (h := k1) hoj
  subst e e'
  have hk := h hn k5
  have wi : ∀ a, Region.wanted l[i] (yielded l.toArray a) = true := fun a => by simp [Region.wanted, gi]
  have wj : ∀ a, Region.wanted l[j] (yielded l.toArray a) = true := fun a => by simp [Region.wanted, gj]
  have A1 : wpS P l Q R i (rest.length + 1) listed a w := wpS_run h1 (wi _) hi (M.refl _) (wpR_one j M (k4 hh) (wpS_run k1 (wj _) hj2 hR hk))
  have A2 : wpS P l Q R j (rest.length + 1) listed a w := by
    refine wpS_run k1 (wj _) hj hR (wpR_one i M hr2 (wpS_run h1 (wi _) hi2 (M.refl _) ?_))
    rw [hc]
    have e : (listed.setIfInBounds j true).setIfInBounds i true = (listed.setIfInBounds i true).setIfInBounds j true := Array.setIfInBounds_comm _ _ (fun e => hij e.symm)
    rw [e]
    exact hk
  rcases hr with hr | hr
  · exact wpR_two i j M hr A1 A2
  · exact wpR_two j i M hr A2 A1
end
end Go.Proofs.Ytkaecidnkkcbaaa

