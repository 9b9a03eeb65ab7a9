/-
  Rows of words whose list was made whole and is filled one by one.
-/
import Derived.Test.YtefnagiffllhbaaRowG
namespace Go.Proofs.Ytefnagiffllhbaa
open Go.RowKit

/-- The first i cells are rows f 0, f 1, .. -/
def FRows (N : Nat) (gb : Option Nat) (w : World) (cs : Array Value) (i : Nat) (f : Nat → List Nat) : Prop := ∀ k, k < i → ∃ v, cs[k]? = some v ∧ RWx N gb w v (f k)
theorem frows_nil (N : Nat) (gb : Option Nat) (w : World) (cs : Array Value) (f : Nat → List Nat) : FRows N gb w cs 0 f := fun k h => by omega
theorem frows_keep {N : Nat} {gb : Option Nat} {w w' : World} {cs : Array Value} {i : Nat} {f : Nat → List Nat} (h : FRows N gb w cs i f) (hs : w.heap.size ≤ w'.heap.size) (hw : ∀ b, N ≤ b → b < w.heap.size → some b ≠ gb → w'.heap[b]? = w.heap[b]?) : FRows N gb w' cs i f :=
  fun k hk => by
    obtain ⟨v, h1, h2⟩ := h k hk
    exact ⟨v, h1, rwx_keep h2 hs hw⟩
theorem frows_below {N : Nat} {gb : Option Nat} {w w' : World} {cs : Array Value} {i : Nat} {f : Nat → List Nat} (h : FRows N gb w cs i f) (hb : Below w.heap.size w w') : FRows N gb w' cs i f :=
  frows_keep h hb.size fun b _ h2 _ => hb.block b h2
theorem frows_only {N g : Nat} {w w' : World} {cs : Array Value} {i : Nat} {f : Nat → List Nat} (h : FRows N (some g) w cs i f) (hb : w.grownBy w' (some g)) : FRows N (some g) w' cs i f :=
  frows_keep h hb.size fun b _ h2 h3 => hb.block b h2 h3
theorem frows_set {N : Nat} {gb : Option Nat} {w : World} {cs : Array Value} {i : Nat} {f : Nat → List Nat} {v : Value} (h : FRows N gb w cs i f) (hi : i < cs.size) (hv : RWx N gb w v (f i)) : FRows N gb w (cs.setIfInBounds i v) (i + 1) f := fun k hk => by
  by_cases e : i = k
  · subst e
    exact ⟨v, by simp [hi], hv⟩
  · obtain ⟨u, h1, h2⟩ := h k (by omega)
    exact ⟨u, by rw [Array.getElem?_setIfInBounds_ne e]; exact h1, h2⟩
theorem frows_done {N n g : Nat} {gb : Option Nat} {w : World} {t : TypeId} {cs : Array Value} {f : Nat → List Nat} (h : FRows N gb w cs n f) (hk : Blk w g t cs) (hm : n ≤ maxLen) : RRows w [.slice (some ⟨g, 0, none⟩) n n] ((List.range n).map f) := by
  refine ⟨_, n, n, rfl, by simp, Nat.le_refl _, hm, fun i hi => ?_⟩
  have hi2 : i < n := by simpa using hi
  obtain ⟨v, h1, h2⟩ := h i hi2
  refine ⟨_, [v], rfl, rfl, fun j hj => ?_, by simpa using h2 w fun _ _ _ _ => rfl⟩
  obtain rfl : j = 0 := by omega
  rw [add_none, show 0 + (i * 1 + 0) = i by omega, hk.cell, h1]
  rfl
/-- A row in a block of its own. -/
theorem rwx_blk {N g : Nat} {gb : Option Nat} {w : World} {t : TypeId} {l : List Nat} (h : Blk w g t (U64 l).toArray) (hl : ∀ x ∈ l, x < 18446744073709551616) (hm : l.length ≤ maxLen) (hN : N ≤ g) (hg : some g ≠ gb) : RWx N gb w (.slice (some ⟨g, 0, none⟩) l.length l.length) l :=
  fun _ hu => lw_lit (t := t) ((hu g hN h.lt hg).trans h) hl hm
theorem lw_litn {w : World} {g n : Nat} {t : TypeId} {l : List Nat} (h : Blk w g t (U64 l).toArray) (hn : l.length = n) (hl : ∀ x ∈ l, x < 18446744073709551616) (hm : n ≤ maxLen) : RWd w [.slice (some ⟨g, 0, none⟩) n n] l := by
  subst hn
  exact lw_lit h hl hm
theorem rwx_blkn {N g n : Nat} {gb : Option Nat} {w : World} {t : TypeId} {l : List Nat} (h : Blk w g t (U64 l).toArray) (hn : l.length = n) (hl : ∀ x ∈ l, x < 18446744073709551616) (hm : n ≤ maxLen) (hN : N ≤ g) (hg : some g ≠ gb) : RWx N gb w (.slice (some ⟨g, 0, none⟩) n n) l := by
  subst hn
  exact rwx_blk h hl hm hN hg
end Go.Proofs.Ytefnagiffllhbaa

