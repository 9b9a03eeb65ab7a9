/-
  Lists of words in memory: reading one; owned rows.
-/
import Derived.Test.YtefnagiffllhbaaRefI
import Derived.Test.YtefnagiffllhbaaOrdG
namespace Go.Proofs.Ytefnagiffllhbaa
open Go.RowKit

/-- A word of a list that lies in memory. -/
theorem lw_at {w : World} {A : Option Addr} {n c : Nat} {l : List Nat} (h : RWd w [.slice A n c] l) : n = l.length ∧ n ≤ c ∧ c ≤ maxLen ∧ (∀ x ∈ l, x < 18446744073709551616) ∧ Rd w 1 A n (U64 l) := by
  obtain ⟨A', n', c', he, h1, h2, h3, h4⟩ := h
  simp at he
  obtain ⟨rfl, rfl, rfl⟩ := he
  have := h3.len1
  rw [len_U64] at this
  exact ⟨this.symm, h1, h2, h4, h3⟩
theorem lw_get {w : World} {A : Option Addr} {l : List Nat} (h : Rd w 1 A l.length (U64 l)) {j : Nat} (hj : j < l.length) : ∃ b q, A = some ⟨b, q, none⟩ ∧ b < w.heap.size ∧ w.cell? ⟨b, q + j, none⟩ = some (.int .u64 ((l.getD j 0 : Nat) : Int)) := by
  obtain ⟨b, q, e, hb, hc⟩ := rd_base h (by omega)
  refine ⟨b, q, e, hb, ?_⟩
  rw [hc j hj, at_U64 hj, List.getD_eq_getElem?_getD, List.getElem?_eq_getElem hj]
  rfl
theorem lw_max {n c : Nat} (h1 : n ≤ c) (h2 : c ≤ maxLen) : (n : Int) ≤ 9223372036854775807 := by
  simp [maxLen] at h2
  omega
theorem lw_getD {l : List Nat} {B : Nat} (h : ∀ x ∈ l, x < B) {k : Nat} (hk : k < l.length) : l.getD k 0 < B := by
  rw [List.getD_eq_getElem?_getD, List.getElem?_eq_getElem hk]
  exact h _ (List.getElem_mem _)
theorem lw_snoc (l : List Nat) (k : Nat) (h : k < l.length) : l.take (k + 1) = l.take k ++ [l.getD k 0] := by
  rw [List.take_succ_eq_append_getElem h, List.getD_eq_getElem?_getD, List.getElem?_eq_getElem h]
  rfl
theorem lw_fold {β : Type} (f : β → Nat → β) (b : β) (l : List Nat) (k : Nat) (h : k < l.length) : (l.take (k + 1)).foldl f b = f ((l.take k).foldl f b) (l.getD k 0) := by
  rw [lw_snoc l k h, List.foldl_append]
  rfl
/-- A slice of words that the call owns reads as words. -/
theorem lw_own {w : World} {base : Nat} {e : TypeId} {A : Option Addr} {c n : Nat} {l : List Nat} (h : w.ownsRow base e 1 (.slice A n c) n (U64 l)) (hl : ∀ x ∈ l, x < 18446744073709551616) : RWd w [.slice A n c] l := by
  obtain ⟨A', c', he, h1, h2, h3, -⟩ := own_form h
  simp at he
  obtain ⟨rfl, rfl⟩ := he
  exact ⟨A, n, c, rfl, h1, h2, h3, hl⟩
theorem lw_grow {W W' : World} {B : Nat} {e : TypeId} {size : Nat} {v : Value} {n : Nat} {xs : List Value} (h : W.ownsRow B e size v n xs) (hg : W.grownBy W' v.ownBlock) (hB : B ≤ W.heap.size) : Below B W W' :=
  below_of_grown hg B hB fun g e => (h.lt g e).1
theorem lw_app {w : World} {B m : Nat} {t : TypeId} {v : Value} {a b c : List Nat} (h : w.ownsRow B t 1 v m (U64 a ++ U64 b)) (e : a ++ b = c) : w.ownsRow B t 1 v m (U64 c) := by
  rw [← e, U64_append]
  exact h
/-- A literal of words. -/
theorem lw_lit {w : World} {g : Nat} {t : TypeId} {l : List Nat} (h : Blk w g t (U64 l).toArray) (hl : ∀ x ∈ l, x < 18446744073709551616) (hm : l.length ≤ maxLen) : RWd w [.slice (some ⟨g, 0, none⟩) l.length l.length] l := by
  refine ⟨_, _, _, rfl, Nat.le_refl _, hm, ⟨by rw [len_U64, Nat.mul_one], fun _ => ⟨_, rfl, fun j u hu => ?_⟩⟩, hl⟩
  rw [add_none, Nat.zero_add, h.cell]
  simpa using hu
end Go.Proofs.Ytefnagiffllhbaa

