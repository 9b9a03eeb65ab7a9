/-
  The plain law of ProverDecode, joined: for bytes of the right length the proof that is read part by part is the one that the numbers make, if that one is valid; if not, the reader has failed.
-/
import Derived.Test.YtkaecidnkkcbaaaLawD
import Derived.Test.YtkaecidnkkcbaaaOfH
namespace Go.Proofs.Ytkaecidnkkcbaaa
open Go.RowKit

def psOf (L : LayR) (j : Nat) (i : Nat) : Nat × Nat :=
  if i = 0 then (L.k, L.p) else if i = 1 then (L.k + L.block - 1, L.p) else if i = 2 then (2 * L.k - 1, L.p)
  else if i < 3 + L.queries then (L.a + L.b + L.b + L.b + 3, L.p) else if i = 3 + L.queries then (L.queries, bigP) else (j, bigP)
def piece (L : LayR) (P : ProofR) (i : Nat) : List Nat :=
  if i = 0 then P.code else if i = 1 then P.linear else if i = 2 then P.quad
  else if i < 3 + L.queries then P.cols.getD (i - 3) [] else if i = 3 + L.queries then P.salts else P.paths.getD (i - 4 - L.queries) []
/-- The proof that is read. -/
def rdProof (L : LayR) (j : Nat) (b : List Nat) : ProofR :=
  let u := rdUint (bigP - 1) b false
  let f := lsAt (psOf L j) u.2.1 u.2.2
  { root := u.1, code := f 0, linear := f 1, quad := f 2, cols := (List.range L.queries).map fun i => f (3 + i), salts := f (3 + L.queries), paths := (List.range L.queries).map fun i => f (4 + L.queries + i) }
/-- The reader behind it. -/
def rdRest (L : LayR) (j : Nat) (b : List Nat) : List Nat × Bool :=
  stAt (psOf L j) (rdUint (bigP - 1) b false).2.1 (rdUint (bigP - 1) b false).2.2 (4 + 2 * L.queries)

theorem sum_cols (L : LayR) (j : Nat) : ∀ i, i ≤ L.queries → sumTo (psOf L j) (3 + i) = L.k + (L.k + L.block - 1) + (2 * L.k - 1) + i * (L.a + L.b + L.b + L.b + 3)
  | 0, _ => by simp [sumTo, psOf]
  | i + 1, h => by
    have e : sumTo (psOf L j) (3 + (i + 1)) = sumTo (psOf L j) (3 + i) + (psOf L j (3 + i)).1 := rfl
    rw [e, sum_cols L j i (by omega), Nat.succ_mul i]
    simp only [psOf]
    rw [if_neg (by omega), if_neg (by omega), if_neg (by omega), if_pos (by omega)]
    omega
theorem sum_salts (L : LayR) (j : Nat) : sumTo (psOf L j) (4 + L.queries) = L.k + (L.k + L.block - 1) + (2 * L.k - 1) + L.queries * (L.a + L.b + L.b + L.b + 3) + L.queries := by
  have e : sumTo (psOf L j) (3 + L.queries + 1) = sumTo (psOf L j) (3 + L.queries) + (psOf L j (3 + L.queries)).1 := rfl
  rw [show 4 + L.queries = 3 + L.queries + 1 by omega, e, sum_cols L j _ (Nat.le_refl _)]
  simp only [psOf]
  rw [if_neg (by omega), if_neg (by omega), if_neg (by omega), if_neg (by omega), if_pos trivial]
theorem sum_paths (L : LayR) (j : Nat) : ∀ i, i ≤ L.queries → sumTo (psOf L j) (4 + L.queries + i) = L.k + (L.k + L.block - 1) + (2 * L.k - 1) + L.queries * (L.a + L.b + L.b + L.b + 3) + L.queries + i * j
  | 0, _ => by rw [Nat.add_zero, sum_salts]; simp
  | i + 1, h => by
    have e : sumTo (psOf L j) (4 + L.queries + (i + 1)) = sumTo (psOf L j) (4 + L.queries + i) + (psOf L j (4 + L.queries + i)).1 := rfl
    rw [e, sum_paths L j i (by omega), Nat.succ_mul i]
    simp only [psOf]
    rw [if_neg (by omega), if_neg (by omega), if_neg (by omega), if_neg (by omega), if_neg (by omega)]
    omega
theorem sum_all (L : LayR) (j : Nat) : szOf L j = 8 * (1 + sumTo (psOf L j) (4 + 2 * L.queries)) := by
  rw [show 4 + 2 * L.queries = 4 + L.queries + L.queries by omega, sum_paths L j _ (Nat.le_refl _)]
  unfold szOf
  rw [Nat.mul_add L.queries _ j, Nat.mul_add L.queries _ 1]
  omega

theorem getD_chunks (n s : Nat) (l : List Nat) (i : Nat) (h : i < n) : (chunks n s l).getD i [] = (l.drop (i * s)).take s := by
  rw [List.getD_eq_getElem?_getD, List.getElem?_eq_getElem (by rw [chunks_len]; exact h), chunks_get]
  rfl
/-- The pieces that the numbers make. -/
theorem piece_of (L : LayR) (j : Nat) (b : List Nat) (n : Nat) (hn : n = 1 + sumTo (psOf L j) (4 + 2 * L.queries)) (i : Nat) (hi : i < 4 + 2 * L.queries) :
    piece L (ofNums L j (wordsOf n b)) i = wordsOf (psOf L j i).1 ((b.drop 8).drop (8 * sumTo (psOf L j) i)) := by
  have hm := sumTo_mono (psOf L j) (4 + 2 * L.queries) (i + 1) (by omega)
  rw [sumTo] at hm
  have key : ∀ s k, s + k ≤ n → ((wordsOf n b).drop s).take k = wordsOf k (b.drop (8 * s)) := fun s k h => wordsOf_part n b s k h
  rw [List.drop_drop]
  have e8 : 8 + 8 * sumTo (psOf L j) i = 8 * (1 + sumTo (psOf L j) i) := by omega
  rw [e8]
  by_cases h0 : i = 0
  · subst h0
    have e : (psOf L j 0).1 = L.k := rfl
    rw [e] at hm ⊢
    exact key 1 L.k (by simp only [sumTo] at hm; omega)
  by_cases h1 : i = 1
  · subst h1
    have e : (psOf L j 1).1 = L.k + L.block - 1 := rfl
    have es : sumTo (psOf L j) 1 = L.k := by simp [sumTo, psOf]
    rw [e, es] at hm ⊢
    exact key (1 + L.k) _ (by omega)
  by_cases h2 : i = 2
  · subst h2
    have e : (psOf L j 2).1 = 2 * L.k - 1 := rfl
    have es : sumTo (psOf L j) 2 = L.k + (L.k + L.block - 1) := by simp [sumTo, psOf]
    rw [e, es] at hm ⊢
    show (((wordsOf n b).drop (1 + L.k)).drop (L.k + L.block - 1)).take (2 * L.k - 1) = _
    rw [List.drop_drop]
    exact (key _ _ (by omega)).trans (by rw [Nat.add_assoc])
  by_cases h3 : i < 3 + L.queries
  · obtain ⟨q, rfl⟩ : ∃ q, i = 3 + q := ⟨i - 3, by omega⟩
    have e : (psOf L j (3 + q)).1 = L.a + L.b + L.b + L.b + 3 := by simp only [psOf]; rw [if_neg h0, if_neg h1, if_neg h2, if_pos h3]
    rw [e, sum_cols L j q (by omega)] at hm ⊢
    have ep : piece L (ofNums L j (wordsOf n b)) (3 + q) = (ofNums L j (wordsOf n b)).cols.getD q [] := by
      simp only [piece]; rw [if_neg h0, if_neg h1, if_neg h2, if_pos h3, show 3 + q - 3 = q by omega]
    rw [ep]
    show (chunks _ _ ((((wordsOf n b).drop (1 + L.k)).drop (L.k + L.block - 1)).drop (2 * L.k - 1))).getD q [] = _
    rw [getD_chunks _ _ _ _ (by omega), List.drop_drop, List.drop_drop, List.drop_drop]
    exact (key _ _ (by omega)).trans (by simp only [Nat.add_assoc])
  by_cases h4 : i = 3 + L.queries
  · subst h4
    have e : (psOf L j (3 + L.queries)).1 = L.queries := by simp only [psOf]; rw [if_neg h0, if_neg h1, if_neg h2, if_neg h3, if_pos trivial]
    rw [e, sum_cols L j L.queries (Nat.le_refl _)] at hm ⊢
    have ep : piece L (ofNums L j (wordsOf n b)) (3 + L.queries) = (ofNums L j (wordsOf n b)).salts := by
      simp only [piece]; rw [if_neg h0, if_neg h1, if_neg h2, if_neg h3, if_pos trivial]
    rw [ep]
    show ((((((wordsOf n b).drop (1 + L.k)).drop (L.k + L.block - 1)).drop (2 * L.k - 1))).drop (L.queries * (L.a + L.b + L.b + L.b + 3))).take L.queries = _
    rw [List.drop_drop, List.drop_drop, List.drop_drop]
    exact (key _ _ (by omega)).trans (by simp only [Nat.add_assoc])
  · obtain ⟨q, rfl⟩ : ∃ q, i = 4 + L.queries + q := ⟨i - 4 - L.queries, by omega⟩
    have e : (psOf L j (4 + L.queries + q)).1 = j := by simp only [psOf]; rw [if_neg h0, if_neg h1, if_neg h2, if_neg h3, if_neg h4]
    rw [e, sum_paths L j q (by omega)] at hm ⊢
    have ep : piece L (ofNums L j (wordsOf n b)) (4 + L.queries + q) = (ofNums L j (wordsOf n b)).paths.getD q [] := by
      simp only [piece]; rw [if_neg h0, if_neg h1, if_neg h2, if_neg h3, if_neg h4, show 4 + L.queries + q - 4 - L.queries = q by omega]
    rw [ep]
    show (chunks _ _ (((((wordsOf n b).drop (1 + L.k)).drop (L.k + L.block - 1)).drop (2 * L.k - 1)).drop (L.queries * (L.a + L.b + L.b + L.b + 3)) |>.drop L.queries)).getD q [] = _
    rw [getD_chunks _ _ _ _ (by omega), List.drop_drop, List.drop_drop, List.drop_drop, List.drop_drop, List.drop_drop]
    exact (key _ _ (by omega)).trans (by simp only [Nat.add_assoc])
theorem piece_rd (L : LayR) (j : Nat) (b : List Nat) (i : Nat) (hi : i < 4 + 2 * L.queries) : piece L (rdProof L j b) i = lsAt (psOf L j) (rdUint (bigP - 1) b false).2.1 (rdUint (bigP - 1) b false).2.2 i := by
  by_cases h0 : i = 0
  · subst h0; rfl
  by_cases h1 : i = 1
  · subst h1; rfl
  by_cases h2 : i = 2
  · subst h2; rfl
  by_cases h3 : i < 3 + L.queries
  · obtain ⟨q, rfl⟩ : ∃ q, i = 3 + q := ⟨i - 3, by omega⟩
    simp only [piece]
    rw [if_neg h0, if_neg h1, if_neg h2, if_pos h3, show 3 + q - 3 = q by omega]
    simp [rdProof, List.getD_eq_getElem?_getD, show q < L.queries by omega]
  by_cases h4 : i = 3 + L.queries
  · subst h4
    simp only [piece]
    rw [if_neg h0, if_neg h1, if_neg h2, if_neg h3, if_pos trivial]
    rfl
  · obtain ⟨q, rfl⟩ : ∃ q, i = 4 + L.queries + q := ⟨i - 4 - L.queries, by omega⟩
    simp only [piece]
    rw [if_neg h0, if_neg h1, if_neg h2, if_neg h3, if_neg h4, show 4 + L.queries + q - 4 - L.queries = q by omega]
    simp [rdProof, List.getD_eq_getElem?_getD, show q < L.queries by omega]
theorem list_ext_getD {a b : List (List Nat)} (hl : a.length = b.length) (h : ∀ i < a.length, a.getD i [] = b.getD i []) : a = b := by
  refine List.ext_getElem hl fun i h1 h2 => ?_
  have := h i h1
  simpa [List.getD_eq_getElem?_getD, List.getElem?_eq_getElem h1, List.getElem?_eq_getElem h2] using this
theorem proof_ext (L : LayR) (P P' : ProofR) (hr : P.root = P'.root) (h1 : P.cols.length = L.queries) (h2 : P'.cols.length = L.queries) (h3 : P.paths.length = L.queries) (h4 : P'.paths.length = L.queries)
    (h : ∀ i < 4 + 2 * L.queries, piece L P i = piece L P' i) : P = P' := by
  have e0 := h 0 (by omega)
  have e1 := h 1 (by omega)
  have e2 := h 2 (by omega)
  have e3 : P.cols = P'.cols := list_ext_getD (by rw [h1, h2]) fun i hi => by
    have := h (3 + i) (by omega)
    simp only [piece] at this
    rw [if_neg (by omega), if_neg (by omega), if_neg (by omega), if_pos (by omega), if_neg (by omega), if_neg (by omega), if_neg (by omega), if_pos (by omega), show 3 + i - 3 = i by omega] at this
    exact this
  have e4 : P.salts = P'.salts := by
    have := h (3 + L.queries) (by omega)
    simp only [piece] at this
    rw [if_neg (by omega), if_neg (by omega), if_neg (by omega), if_neg (by omega), if_pos trivial, if_neg (by omega), if_neg (by omega), if_neg (by omega), if_neg (by omega), if_pos trivial] at this
    exact this
  have e5 : P.paths = P'.paths := list_ext_getD (by rw [h3, h4]) fun i hi => by
    have := h (4 + L.queries + i) (by omega)
    simp only [piece] at this
    rw [if_neg (by omega), if_neg (by omega), if_neg (by omega), if_neg (by omega), if_neg (by omega), if_neg (by omega), if_neg (by omega), if_neg (by omega), if_neg (by omega), if_neg (by omega), show 4 + L.queries + i - 4 - L.queries = i by omega] at this
    exact this
  cases P
  cases P'
  simp only [piece] at e0 e1 e2
  simp_all
theorem redOk_iff (l : List Nat) (n : Nat) (p : Nat) (hl : l.length = n) : redOk l (n : Int) p = true ↔ ∀ x ∈ l, x < p := by
  simp [redOk, hl]
theorem listsOk_iff (ls : List (List Nat)) (m n : Nat) (p : Nat) (hm : ls.length = m) (hl : ∀ l ∈ ls, l.length = n) : listsOk ls (m : Int) (n : Int) p = true ↔ ∀ l ∈ ls, ∀ x ∈ l, x < p := by
  simp only [listsOk, Bool.and_eq_true, List.all_eq_true, hm, beq_self_eq_true, and_true]
  exact ⟨fun h l hl' => (redOk_iff l n p (hl l hl')).1 (h l hl'), fun h l hl' => (redOk_iff l n p (hl l hl')).2 (h l hl')⟩
/-- A proof whose pieces have the right lengths is valid if the numbers are small. -/
theorem prOk_iff (L : LayR) (j : Nat) (P : ProofR) (h1 : P.cols.length = L.queries) (h3 : P.paths.length = L.queries) (hl : ∀ i < 4 + 2 * L.queries, (piece L P i).length = (psOf L j i).1) :
    prOk L j P = true ↔ P.root < bigP ∧ ∀ i < 4 + 2 * L.queries, ∀ x ∈ piece L P i, x < (psOf L j i).2 := by
  have hc : ∀ l ∈ P.cols, ∃ i < L.queries, l = piece L P (3 + i) ∧ psOf L j (3 + i) = (L.a + L.b + L.b + L.b + 3, L.p) := fun l hl' => by
    obtain ⟨i, hi, rfl⟩ := List.getElem_of_mem hl'
    refine ⟨i, by omega, ?_, ?_⟩
    · simp only [piece]
      rw [if_neg (by omega), if_neg (by omega), if_neg (by omega), if_pos (by omega), show 3 + i - 3 = i by omega, List.getD_eq_getElem?_getD, List.getElem?_eq_getElem hi]
      rfl
    · simp only [psOf]
      rw [if_neg (by omega), if_neg (by omega), if_neg (by omega), if_pos (by omega)]
  have hp : ∀ l ∈ P.paths, ∃ i < L.queries, l = piece L P (4 + L.queries + i) ∧ psOf L j (4 + L.queries + i) = (j, bigP) := fun l hl' => by
    obtain ⟨i, hi, rfl⟩ := List.getElem_of_mem hl'
    refine ⟨i, by omega, ?_, ?_⟩
    · simp only [piece]
      rw [if_neg (by omega), if_neg (by omega), if_neg (by omega), if_neg (by omega), if_neg (by omega), show 4 + L.queries + i - 4 - L.queries = i by omega, List.getD_eq_getElem?_getD, List.getElem?_eq_getElem hi]
      rfl
    · simp only [psOf]
      rw [if_neg (by omega), if_neg (by omega), if_neg (by omega), if_neg (by omega), if_neg (by omega)]
  have hs : piece L P (3 + L.queries) = P.salts ∧ psOf L j (3 + L.queries) = (L.queries, bigP) := by
    simp only [piece, psOf]
    rw [if_neg (by omega), if_neg (by omega), if_neg (by omega), if_neg (by omega), if_pos trivial, if_neg (by omega), if_neg (by omega), if_neg (by omega), if_neg (by omega), if_pos trivial]
    exact ⟨rfl, rfl⟩
  have l0 : P.code.length = L.k := hl 0 (by omega)
  have l1 : P.linear.length = L.k + L.block - 1 := hl 1 (by omega)
  have l2 : P.quad.length = 2 * L.k - 1 := hl 2 (by omega)
  have l3 : P.salts.length = L.queries := by have := hl (3 + L.queries) (by omega); rw [hs.1, hs.2] at this; exact this
  have l4 : ∀ l ∈ P.cols, l.length = L.a + L.b + L.b + L.b + 3 := fun l hl' => by
    obtain ⟨i, hi, e, e2⟩ := hc l hl'
    have := hl (3 + i) (by omega)
    rw [← e, e2] at this
    exact this
  have l5 : ∀ l ∈ P.paths, l.length = j := fun l hl' => by
    obtain ⟨i, hi, e, e2⟩ := hp l hl'
    have := hl (4 + L.queries + i) (by omega)
    rw [← e, e2] at this
    exact this
  unfold prOk
  simp only [Bool.and_eq_true, Bool.not_eq_true', decide_eq_false_iff_not]
  rw [redOk_iff _ _ _ l0, redOk_iff _ _ _ l1, redOk_iff _ _ _ l2, redOk_iff _ _ _ l3, listsOk_iff _ _ _ _ h1 l4, listsOk_iff _ _ _ _ h3 l5]
  constructor
  · rintro ⟨a0, a1, a2, a3, a4, a5, a6⟩
    refine ⟨by omega, fun i hi x hx => ?_⟩
    by_cases h0 : i = 0
    · subst h0; exact a1 x hx
    by_cases h1' : i = 1
    · subst h1'; exact a2 x hx
    by_cases h2' : i = 2
    · subst h2'; exact a3 x hx
    by_cases h3' : i < 3 + L.queries
    · obtain ⟨q, rfl⟩ : ∃ q, i = 3 + q := ⟨i - 3, by omega⟩
      have hq : q < P.cols.length := by omega
      obtain ⟨q', hq', e, e2⟩ := hc _ (List.getElem_mem hq)
      have e3 : piece L P (3 + q) = P.cols[q] := by
        simp only [piece]
        rw [if_neg h0, if_neg h1', if_neg h2', if_pos h3', show 3 + q - 3 = q by omega, List.getD_eq_getElem?_getD, List.getElem?_eq_getElem hq]
        rfl
      have e4 : (psOf L j (3 + q)).2 = L.p := by simp only [psOf]; rw [if_neg h0, if_neg h1', if_neg h2', if_pos h3']
      rw [e4]
      rw [e3] at hx
      exact a4 _ (List.getElem_mem hq) x hx
    by_cases h4' : i = 3 + L.queries
    · subst h4'
      rw [hs.2]
      rw [hs.1] at hx
      exact a5 x hx
    · obtain ⟨q, rfl⟩ : ∃ q, i = 4 + L.queries + q := ⟨i - 4 - L.queries, by omega⟩
      have hq : q < P.paths.length := by omega
      have e3 : piece L P (4 + L.queries + q) = P.paths[q] := by
        simp only [piece]
        rw [if_neg h0, if_neg h1', if_neg h2', if_neg h3', if_neg h4', show 4 + L.queries + q - 4 - L.queries = q by omega, List.getD_eq_getElem?_getD, List.getElem?_eq_getElem hq]
        rfl
      have e4 : (psOf L j (4 + L.queries + q)).2 = bigP := by simp only [psOf]; rw [if_neg h0, if_neg h1', if_neg h2', if_neg h3', if_neg h4']
      rw [e4]
      rw [e3] at hx
      exact a6 _ (List.getElem_mem hq) x hx
  · rintro ⟨a0, a⟩
    refine ⟨by omega, a 0 (by omega), a 1 (by omega), a 2 (by omega), fun l hl' x hx => ?_, fun x hx => ?_, fun l hl' x hx => ?_⟩
    · obtain ⟨i, hi, e, e2⟩ := hc l hl'
      have := a (3 + i) (by omega) x (by rw [← e]; exact hx)
      rwa [e2] at this
    · have := a (3 + L.queries) (by omega) x (by rw [hs.1]; exact hx)
      rwa [hs.2] at this
    · obtain ⟨i, hi, e, e2⟩ := hp l hl'
      have := a (4 + L.queries + i) (by omega) x (by rw [← e]; exact hx)
      rwa [e2] at this

/-- For bytes of the right length. -/
theorem decode_law (L : LayR) (j : Nat) (b : List Nat) (n : Nat) (hp : 0 < L.p) (hb : b.length = szOf L j) (hn : 8 * n = szOf L j) :
    (prOk L j (ofNums L j (wordsOf n b)) = true → rdProof L j b = ofNums L j (wordsOf n b) ∧ rdRest L j b = ([], false)) ∧ (prOk L j (ofNums L j (wordsOf n b)) = false → (rdRest L j b).2 = true) := by
  have hs := sum_all L j
  have hn' : n = 1 + sumTo (psOf L j) (4 + 2 * L.queries) := by omega
  have hpp : ∀ i, 0 < (psOf L j i).2 := fun i => by
    simp only [psOf]
    split
    · exact hp
    split
    · exact hp
    split
    · exact hp
    split
    · exact hp
    split <;> exact (show 0 < bigP by decide)
  have hpc := piece_of L j b n hn'
  have hlen : ∀ i < 4 + 2 * L.queries, (piece L (ofNums L j (wordsOf n b)) i).length = (psOf L j i).1 := fun i hi => by rw [hpc i hi, wordsOf_len]
  have hiff := prOk_iff L j (ofNums L j (wordsOf n b)) (chunks_len _ _ _) (chunks_len _ _ _) hlen
  have hroot : (ofNums L j (wordsOf n b)).root = valOf (b.take 8) := by
    show (wordsOf n b).getD 0 0 = _
    rw [List.getD_eq_getElem?_getD, wordsOf_get n b 0 (by omega)]
    simp
  have h8 : 8 ≤ b.length := by omega
  have hl8 : 8 * sumTo (psOf L j) (4 + 2 * L.queries) ≤ (b.drop 8).length := by rw [List.length_drop]; omega
  rw [hroot] at hiff
  have hsm : (∀ i < 4 + 2 * L.queries, ∀ x ∈ piece L (ofNums L j (wordsOf n b)) i, x < (psOf L j i).2) ↔ ∀ i < 4 + 2 * L.queries, ∀ x ∈ wordsOf (psOf L j i).1 ((b.drop 8).drop (8 * sumTo (psOf L j) i)), x < (psOf L j i).2 :=
    ⟨fun h i hi => by rw [← hpc i hi]; exact h i hi, fun h i hi => by rw [hpc i hi]; exact h i hi⟩
  rw [hsm] at hiff
  have hbig : 0 < bigP := by decide
  constructor
  · intro h
    obtain ⟨hr, ha⟩ := hiff.1 h
    have hu := rdUint_good (bigP - 1) b h8 (by omega)
    have hst := stAt_good (psOf L j) (b.drop 8) hpp _ hl8 ha
    constructor
    · refine proof_ext L _ _ ?_ (by simp [rdProof]) (chunks_len _ _ _) (by simp [rdProof]) (chunks_len _ _ _) fun i hi => ?_
      · rw [hroot]
        show (rdUint (bigP - 1) b false).1 = _
        rw [hu]
      · rw [piece_rd L j b i hi, hu, hpc i hi]
        exact lsAt_good (psOf L j) (b.drop 8) hpp _ i hi hl8 ha
    · unfold rdRest
      rw [hu]
      simp only
      rw [hst, List.drop_drop, List.drop_of_length_le (by omega)]
  · intro h
    unfold rdRest
    by_cases hr : valOf (b.take 8) < bigP
    · rw [rdUint_good (bigP - 1) b h8 (by omega)]
      refine stAt_great (psOf L j) (b.drop 8) hpp _ hl8 fun ha => ?_
      rw [hiff.2 ⟨hr, ha⟩] at h
      cases h
    · have := rdUint_great (bigP - 1) b h8 (by omega)
      rw [this]
      exact stAt_failed _ _ _
end Go.Proofs.Ytkaecidnkkcbaaa

