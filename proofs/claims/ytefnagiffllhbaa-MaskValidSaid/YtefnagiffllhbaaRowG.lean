/-
  Lists of rows of words that grow by append: each row lies apart from the list's own block.
-/
import Derived.Test.YtefnagiffllhbaaSamA
namespace Go.Proofs.Ytefnagiffllhbaa
open Go.RowKit

/-- v reads as l, in every world that agrees from block N on, apart from block gb. -/
def RWx (N : Nat) (gb : Option Nat) (w : World) (v : Value) (l : List Nat) : Prop := ∀ u : World, (∀ b, N ≤ b → b < w.heap.size → some b ≠ gb → u.heap[b]? = w.heap[b]?) → RWd u [v] l
def GRows (N : Nat) (w : World) (v : Value) (cs : List Value) (l : List (List Nat)) : Prop := cs.length = l.length ∧ ∀ (i : Nat) (h1 : i < cs.length) (h2 : i < l.length), RWx N v.ownBlock w cs[i] l[i]
theorem grows_nil (N : Nat) (w : World) (v : Value) : GRows N w v [] [] := ⟨rfl, fun i h => by simp at h⟩
theorem rwx_keep {N : Nat} {gb : Option Nat} {w w' : World} {v : Value} {l : List Nat} (h : RWx N gb w v l) (hs : w.heap.size ≤ w'.heap.size) (hw : ∀ b, N ≤ b → b < w.heap.size → some b ≠ gb → w'.heap[b]? = w.heap[b]?) : RWx N gb w' v l :=
  fun u hu => h u fun b h1 h2 h3 => (hu b h1 (by omega) h3).trans (hw b h1 h2 h3)
theorem grows_keep {N : Nat} {w w' : World} {v : Value} {cs : List Value} {l : List (List Nat)} (h : GRows N w v cs l) (hs : w.heap.size ≤ w'.heap.size) (hw : ∀ b, N ≤ b → b < w.heap.size → some b ≠ v.ownBlock → w'.heap[b]? = w.heap[b]?) : GRows N w' v cs l :=
  ⟨h.1, fun i h1 h2 => rwx_keep (h.2 i h1 h2) hs hw⟩
theorem grows_below {N : Nat} {w w' : World} {v : Value} {cs : List Value} {l : List (List Nat)} (h : GRows N w v cs l) (hb : Below w.heap.size w w') : GRows N w' v cs l :=
  grows_keep h hb.size fun b _ h2 _ => hb.block b h2
theorem grows_only {N g : Nat} {w w' : World} {v : Value} {cs : List Value} {l : List (List Nat)} (h : GRows N w v cs l) (hg : w.grownBy w' (some g)) (hN : g < N) : GRows N w' v cs l :=
  grows_keep h hg.size fun b h1 h2 _ => hg.block b h2 fun e => by have := Option.some.inj e; omega
theorem rwx_own {N base n : Nat} {w : World} {gb : Option Nat} {e : TypeId} {x : Value} {l : List Nat} (h : w.ownsRow base e 1 x n (U64 l)) (hl : ∀ y ∈ l, y < 18446744073709551616) (hN : N ≤ base) (hg : ∀ q, gb = some q → q < base) : RWx N gb w x l := by
  intro u hu
  have ho := own_agree' h fun b h1 h2 => hu b (by omega) h2 fun e => by have := hg b e.symm; omega
  obtain ⟨A, c, rfl, -⟩ := own_form ho
  exact lw_own ho hl
where
  own_agree' {w u : World} {base : Nat} {e : TypeId} {size : Nat} {v : Value} {n : Nat} {xs : List Value} (h : w.ownsRow base e size v n xs) (ha : ∀ b, base ≤ b → b < w.heap.size → u.heap[b]? = w.heap[b]?) : u.ownsRow base e size v n xs := by
    obtain ⟨h1, h2⟩ := h
    refine ⟨h1, ?_⟩
    rcases h2 with h2 | ⟨g, cap, cur, hv, hgb, hh, r⟩
    · exact Or.inl h2
    · exact Or.inr ⟨g, cap, cur, hv, hgb, by rw [ha g hgb (Array.getElem?_eq_some_iff.1 hh).1]; exact hh, r⟩
theorem grows_app {N : Nat} {w w' : World} {v v' x : Value} {cs : List Value} {l : List (List Nat)} {y : List Nat} (h : GRows N w v cs l) (hx : RWx N v.ownBlock w x y) (hg : w.grownBy w' v.ownBlock) (hv : v'.ownBlock = v.ownBlock ∨ v'.ownBlock = some w.heap.size) : GRows N w' v' (cs ++ [x]) (l ++ [y]) := by
  have key : ∀ {z : Value} {m : List Nat}, RWx N v.ownBlock w z m → RWx N v'.ownBlock w' z m := fun {z m} hz u hu => by
    refine hz u fun b h1 h2 h3 => ?_
    refine (hu b h1 (by have := hg.size; omega) ?_).trans (hg.block b h2 (fun e => h3 e))
    rcases hv with e | e
    · rw [e]; exact h3
    · rw [e]; intro e2; have := Option.some.inj e2; omega
  refine ⟨by simp [h.1], fun i h1 h2 => ?_⟩
  by_cases hi : i < cs.length
  · rw [List.getElem_append_left hi, List.getElem_append_left (by have := h.1; omega)]
    exact key (h.2 i hi _)
  · have e1 : i = cs.length := by simp at h1; omega
    have e2 : (cs ++ [x])[i] = x := by subst e1; simp
    have e3 : (l ++ [y])[i] = y := by
      have : i = l.length := by rw [e1, h.1]
      subst this
      simp
    rw [e2, e3]
    exact key hx
theorem grows_done {N base n : Nat} {w : World} {e : TypeId} {v : Value} {cs : List Value} {l : List (List Nat)} (h : GRows N w v cs l) (ho : w.ownsRow base e 1 v n cs) : RRows w [v] l := by
  obtain ⟨A, c, rfl, h1, h2, hr, -⟩ := own_form ho
  have hn : cs.length = n := by have := ho.1; omega
  refine ⟨A, n, c, rfl, by rw [← h.1, hn], h1, h2, fun i hi => ?_⟩
  have hi2 : i < cs.length := by rw [h.1]; exact hi
  obtain ⟨b, q, hA, hb, hc⟩ := rd_base hr (by omega)
  refine ⟨_, [cs[i]], hA, rfl, fun j hj => ?_, h.2 i hi2 hi w fun _ _ _ _ => rfl⟩
  obtain rfl : j = 0 := by omega
  rw [add_none, show q + (i * 1 + 0) = q + i by omega, hc i (by omega), List.getElem?_eq_getElem hi2]
  rfl
end Go.Proofs.Ytefnagiffllhbaa

