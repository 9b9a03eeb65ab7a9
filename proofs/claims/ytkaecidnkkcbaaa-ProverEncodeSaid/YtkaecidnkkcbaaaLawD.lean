/-
  The plain law of ProverDecode: reading a proof number by number, and cutting a list of numbers, give the same proof.
-/
import Derived.Test.YtkaecidnkkcbaaaWireG
namespace Go.Proofs.Ytkaecidnkkcbaaa
open Go.RowKit

/-- The numbers of 8 bytes each. -/
def wordsOf : Nat → List Nat → List Nat
  | 0, _ => []
  | n + 1, l => valOf (l.take 8) :: wordsOf n (l.drop 8)
theorem wordsOf_len : ∀ (n : Nat) (l : List Nat), (wordsOf n l).length = n
  | 0, _ => rfl
  | n + 1, l => by rw [wordsOf, List.length_cons, wordsOf_len n]
theorem wordsOf_get : ∀ (n : Nat) (l : List Nat) (i : Nat), i < n → (wordsOf n l)[i]? = some (valOf ((l.drop (8 * i)).take 8))
  | 0, _, _, h => absurd h (by omega)
  | n + 1, l, 0, _ => by simp [wordsOf]
  | n + 1, l, i + 1, h => by
    rw [wordsOf, List.getElem?_cons_succ, wordsOf_get n _ i (by omega), List.drop_drop, show 8 + 8 * i = 8 * (i + 1) by omega]
theorem wordsOf_snoc (n : Nat) (l : List Nat) : wordsOf (n + 1) l = wordsOf n l ++ [valOf ((l.drop (8 * n)).take 8)] := by
  apply List.ext_getElem?
  intro i
  rcases Nat.lt_trichotomy i n with h | h | h
  · rw [List.getElem?_append_left (by rw [wordsOf_len]; exact h), wordsOf_get _ _ _ (by omega), wordsOf_get _ _ _ h]
  · subst h
    rw [List.getElem?_append_right (by rw [wordsOf_len]; exact Nat.le_refl _), wordsOf_len, wordsOf_get _ _ _ (by omega)]
    simp
  · rw [List.getElem?_eq_none (by rw [wordsOf_len]; omega), List.getElem?_eq_none (by rw [List.length_append, wordsOf_len]; simp; omega)]
theorem wordsOf_part (n : Nat) (l : List Nat) (s k : Nat) (h : s + k ≤ n) : ((wordsOf n l).drop s).take k = wordsOf k (l.drop (8 * s)) := by
  apply List.ext_getElem?
  intro i
  by_cases hi : i < k
  · rw [List.getElem?_take_of_lt hi, List.getElem?_drop, wordsOf_get _ _ _ (by omega), wordsOf_get _ _ _ hi, List.drop_drop, show 8 * s + 8 * i = 8 * (s + i) by omega]
  · rw [List.getElem?_eq_none (by rw [List.length_take, List.length_drop, wordsOf_len]; omega), List.getElem?_eq_none (by rw [wordsOf_len]; omega)]

/-- k numbers, read one after another: the numbers, what is left, and whether the reader has failed. -/
def rdMany (most : Nat) : Nat → List Nat → Bool → List Nat × List Nat × Bool
  | 0, l, f => ([], l, f)
  | k + 1, l, f => ((rdMany most k l f).1 ++ [(rdUint most (rdMany most k l f).2.1 (rdMany most k l f).2.2).1], (rdUint most (rdMany most k l f).2.1 (rdMany most k l f).2.2).2)
theorem rdMany_len (most : Nat) : ∀ (k : Nat) (l : List Nat) (f : Bool), (rdMany most k l f).1.length = k
  | 0, _, _ => rfl
  | k + 1, l, f => by rw [rdMany]; simp [rdMany_len most k l f]
theorem rdUint_failed (most : Nat) (l : List Nat) : (rdUint most l true).2.2 = true := by simp [rdUint, rdDig]
theorem rdUint_good (most : Nat) (l : List Nat) (h8 : 8 ≤ l.length) (hm : valOf (l.take 8) ≤ most) : rdUint most l false = (valOf (l.take 8), l.drop 8, false) := by
  have h : ¬ l.length < 8 := by omega
  have h2 : ¬ most < valOf (l.take 8) := by omega
  simp [rdUint, rdDig, h, h2]
theorem rdUint_great (most : Nat) (l : List Nat) (h8 : 8 ≤ l.length) (hm : ¬ valOf (l.take 8) ≤ most) : (rdUint most l false).2.2 = true := by
  have h : ¬ l.length < 8 := by omega
  have h2 : most < valOf (l.take 8) := by omega
  simp [rdUint, rdDig, h, h2]
theorem rdMany_failed (most : Nat) : ∀ (k : Nat) (l : List Nat), (rdMany most k l true).2.2 = true
  | 0, _ => rfl
  | k + 1, l => by
    rw [rdMany]
    simp only
    rw [rdMany_failed most k l]
    exact rdUint_failed _ _
/-- All numbers are small: they are read. -/
theorem rdMany_good (most : Nat) : ∀ (k : Nat) (l : List Nat), 8 * k ≤ l.length → (∀ x ∈ wordsOf k l, x ≤ most) → rdMany most k l false = (wordsOf k l, l.drop (8 * k), false)
  | 0, l, _, _ => by simp [rdMany, wordsOf]
  | k + 1, l, hl, h => by
    rw [wordsOf_snoc] at h ⊢
    have ih := rdMany_good most k l (by omega) fun x hx => h x (by simp [hx])
    rw [rdMany, ih]
    simp only
    rw [rdUint_good most (l.drop (8 * k)) (by rw [List.length_drop]; omega) (h _ (by simp)), List.drop_drop, show 8 * k + 8 = 8 * (k + 1) by omega]
/-- One is too great: the reader fails. -/
theorem rdMany_great (most : Nat) : ∀ (k : Nat) (l : List Nat), 8 * k ≤ l.length → (¬ ∀ x ∈ wordsOf k l, x ≤ most) → (rdMany most k l false).2.2 = true
  | 0, l, _, h => absurd (fun x hx => by simp [wordsOf] at hx) h
  | k + 1, l, hl, h => by
    by_cases hk : ∀ x ∈ wordsOf k l, x ≤ most
    · rw [rdMany, rdMany_good most k l (by omega) hk]
      refine rdUint_great _ _ (by rw [List.length_drop]; omega) fun hv => h fun x hx => ?_
      rw [wordsOf_snoc] at hx
      rcases List.mem_append.1 hx with hx | hx
      · exact hk x hx
      · rw [List.mem_singleton] at hx
        rw [hx]
        exact hv
    · rw [rdMany]
      simp only
      rw [rdMany_great most k l (by omega) hk]
      exact rdUint_failed _ _

/-- The parts: how many numbers, and what they are less than. -/
def stAt (ps : Nat → Nat × Nat) (l : List Nat) (f : Bool) : Nat → List Nat × Bool
  | 0 => (l, f)
  | i + 1 => (rdMany ((ps i).2 - 1) (ps i).1 (stAt ps l f i).1 (stAt ps l f i).2).2
def lsAt (ps : Nat → Nat × Nat) (l : List Nat) (f : Bool) (i : Nat) : List Nat := (rdMany ((ps i).2 - 1) (ps i).1 (stAt ps l f i).1 (stAt ps l f i).2).1
def sumTo (ps : Nat → Nat × Nat) : Nat → Nat
  | 0 => 0
  | i + 1 => sumTo ps i + (ps i).1
theorem sumTo_mono (ps : Nat → Nat × Nat) (m : Nat) : ∀ i, i ≤ m → sumTo ps i ≤ sumTo ps m := by
  induction m with
  | zero => intro i h; have : i = 0 := by omega
            subst this; exact Nat.le_refl _
  | succ m ih =>
    intro i h
    rcases Nat.lt_or_ge i (m + 1) with h1 | h1
    · have := ih i (by omega); rw [sumTo]; omega
    · have : i = m + 1 := by omega
      subst this; exact Nat.le_refl _
theorem stAt_failed (ps : Nat → Nat × Nat) (l : List Nat) : ∀ i, (stAt ps l true i).2 = true
  | 0 => rfl
  | i + 1 => by
    rw [stAt, stAt_failed ps l i]
    exact rdMany_failed _ _ _
theorem stAt_good (ps : Nat → Nat × Nat) (l : List Nat) (hp : ∀ i, 0 < (ps i).2) : ∀ m, 8 * sumTo ps m ≤ l.length → (∀ i < m, ∀ x ∈ wordsOf (ps i).1 (l.drop (8 * sumTo ps i)), x < (ps i).2) → stAt ps l false m = (l.drop (8 * sumTo ps m), false)
  | 0, _, _ => by simp [stAt, sumTo]
  | m + 1, hl, h => by
    rw [sumTo] at hl
    have ih := stAt_good ps l hp m (by omega) fun i hi => h i (by omega)
    rw [stAt, ih, rdMany_good _ _ _ (by rw [List.length_drop]; omega) (fun x hx => by have := h m (by omega) x hx; have := hp m; omega), List.drop_drop, sumTo, Nat.mul_add]
theorem lsAt_good (ps : Nat → Nat × Nat) (l : List Nat) (hp : ∀ i, 0 < (ps i).2) (m i : Nat) (hi : i < m) (hl : 8 * sumTo ps m ≤ l.length) (h : ∀ i < m, ∀ x ∈ wordsOf (ps i).1 (l.drop (8 * sumTo ps i)), x < (ps i).2) :
    lsAt ps l false i = wordsOf (ps i).1 (l.drop (8 * sumTo ps i)) := by
  have h1 := sumTo_mono ps m i (by omega)
  have h2 := sumTo_mono ps m (i + 1) (by omega)
  rw [sumTo] at h2
  rw [lsAt, stAt_good ps l hp i (by omega) fun k hk => h k (by omega), rdMany_good _ _ _ (by rw [List.length_drop]; omega) (fun x hx => by have := h i hi x hx; have := hp i; omega)]
theorem stAt_great (ps : Nat → Nat × Nat) (l : List Nat) (hp : ∀ i, 0 < (ps i).2) : ∀ m, 8 * sumTo ps m ≤ l.length → (¬ ∀ i < m, ∀ x ∈ wordsOf (ps i).1 (l.drop (8 * sumTo ps i)), x < (ps i).2) → (stAt ps l false m).2 = true
  | 0, _, h => absurd (fun i hi => absurd hi (by omega)) h
  | m + 1, hl, h => by
    rw [sumTo] at hl
    by_cases hk : ∀ i < m, ∀ x ∈ wordsOf (ps i).1 (l.drop (8 * sumTo ps i)), x < (ps i).2
    · rw [stAt, stAt_good ps l hp m (by omega) hk]
      refine rdMany_great _ _ _ (by rw [List.length_drop]; omega) fun hv => h fun i hi x hx => ?_
      rcases Nat.lt_or_ge i m with h1 | h1
      · exact hk i h1 x hx
      · have : i = m := by omega
        subst this
        have := hv x hx
        have := hp i
        omega
    · rw [stAt, stAt_great ps l hp m (by omega) hk]
      exact rdMany_failed _ _ _
end Go.Proofs.Ytkaecidnkkcbaaa

