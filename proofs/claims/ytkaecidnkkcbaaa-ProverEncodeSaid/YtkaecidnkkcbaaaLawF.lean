/-
  The plain law of ProverEncode: the bytes of a valid proof decode to the proof.
-/
import Derived.Test.YtkaecidnkkcbaaaPrP
namespace Go.Proofs.Ytkaecidnkkcbaaa
open Go.RowKit

def bytesOf (l : List Nat) : List Nat := l.flatMap fun x => digs x 8
theorem bytesOf_len : ∀ (l : List Nat), (bytesOf l).length = 8 * l.length
  | [] => rfl
  | x :: r => by
    have e : bytesOf (x :: r) = digs x 8 ++ bytesOf r := rfl
    rw [e, List.length_append, len_digs, bytesOf_len r, List.length_cons]
    omega
theorem digs_lt : ∀ (k n : Nat), ∀ x ∈ digs n k, x < 256
  | 0, _, x, h => by simp [digs] at h
  | k + 1, n, x, h => by
    rw [digs, List.mem_cons] at h
    rcases h with h | h
    · omega
    · exact digs_lt k _ x h
theorem bytesOf_lt (l : List Nat) : ∀ x ∈ bytesOf l, x < 256 := by
  intro x hx
  obtain ⟨y, -, h⟩ := List.mem_flatMap.1 hx
  exact digs_lt 8 y x h
theorem valOf_of_digs : ∀ (k n : Nat), valOf (digs n k) = n % 256 ^ k
  | 0, n => by simp [digs, valOf, Nat.mod_one]
  | k + 1, n => by
    rw [digs, valOf, valOf_of_digs k, Nat.pow_succ, Nat.mul_comm (256 ^ k) 256, Nat.mod_mul]
theorem wordsOf_bytes : ∀ (l : List Nat), (∀ x ∈ l, x < 18446744073709551616) → wordsOf l.length (bytesOf l) = l
  | [], _ => rfl
  | x :: r, h => by
    have e : bytesOf (x :: r) = digs x 8 ++ bytesOf r := rfl
    have hl : (digs x 8).length = 8 := len_digs 8 x
    rw [List.length_cons, wordsOf, e, List.take_append_of_le_length (by omega), List.take_of_length_le (by omega), List.drop_append_of_le_length (by omega), List.drop_of_length_le (by omega), List.nil_append, wordsOf_bytes r fun y hy => h y (by simp [hy]), valOf_of_digs]
    have h1 := h x (by simp)
    have h2 : (256 : Nat) ^ 8 = 18446744073709551616 := by decide
    rw [h2, Nat.mod_eq_of_lt h1]
theorem bytesOf_append (l m : List Nat) : bytesOf (l ++ m) = bytesOf l ++ bytesOf m := by simp [bytesOf]

theorem drop_at {l r : List Nat} {n : Nat} (h : l.length = n) : (l ++ r).drop n = r := by
  rw [List.drop_append_of_le_length (by omega), List.drop_of_length_le (by omega), List.nil_append]
theorem take_at {l r : List Nat} {n : Nat} (h : l.length = n) : (l ++ r).take n = l := by
  rw [List.take_append_of_le_length (by omega), List.take_of_length_le (by omega)]
theorem chunks_flatten (s : Nat) : ∀ (ls : List (List Nat)) (r : List Nat), (∀ l ∈ ls, l.length = s) → chunks ls.length s (ls.flatten ++ r) = ls
  | [], r, _ => rfl
  | l :: ls, r, h => by
    have hl := h l (by simp)
    have ih := chunks_flatten s ls r fun x hx => h x (by simp [hx])
    apply List.ext_getElem (by rw [chunks_len])
    intro i h1 h2
    rw [chunks_get]
    cases i with
    | zero =>
      rw [Nat.zero_mul, List.drop_zero, List.flatten_cons, List.append_assoc, List.take_append_of_le_length (by omega), List.take_of_length_le (by omega)]
      rfl
    | succ i =>
      have h3 : i < (chunks ls.length s (ls.flatten ++ r)).length := by rw [chunks_len]; simpa using h2
      have e := chunks_get ls.length s (ls.flatten ++ r) i h3
      simp only [ih] at e
      have ed : (l ++ (ls.flatten ++ r)).drop ((i + 1) * s) = (ls.flatten ++ r).drop (i * s) := by
        rw [show (i + 1) * s = s + i * s by rw [Nat.succ_mul, Nat.add_comm], ← List.drop_drop, drop_at hl]
      rw [List.getElem_cons_succ, e, List.flatten_cons, List.append_assoc, ed]
theorem flat_len (s : Nat) : ∀ (ls : List (List Nat)), (∀ l ∈ ls, l.length = s) → ls.flatten.length = ls.length * s
  | [], _ => by simp
  | l :: ls, h => by
    rw [List.flatten_cons, List.length_append, flat_len s ls fun x hx => h x (by simp [hx]), h l (by simp), List.length_cons, Nat.succ_mul]
    omega
/-- What a valid proof looks like. -/
structure Lens (L : LayR) (j : Nat) (P : ProofR) : Prop where
  code : P.code.length = L.k
  linear : P.linear.length = L.k + L.block - 1
  quad : P.quad.length = 2 * L.k - 1
  cols : P.cols.length = L.queries
  col : ∀ l ∈ P.cols, l.length = L.a + L.b + L.b + L.b + 3
  salts : P.salts.length = L.queries
  paths : P.paths.length = L.queries
  path : ∀ l ∈ P.paths, l.length = j
theorem redOk_len {l : List Nat} {n p : Nat} (h : redOk l (n : Int) p = true) : l.length = n := by
  simp only [redOk, Bool.and_eq_true, beq_iff_eq] at h
  omega
theorem listsOk_len {ls : List (List Nat)} {m n p : Nat} (h : listsOk ls (m : Int) (n : Int) p = true) : ls.length = m ∧ ∀ l ∈ ls, l.length = n := by
  simp only [listsOk, Bool.and_eq_true, beq_iff_eq, List.all_eq_true] at h
  exact ⟨by omega, fun l hl => redOk_len (h.1 l hl)⟩
theorem lens_of {L : LayR} {j : Nat} {P : ProofR} (h : prOk L j P = true) : Lens L j P := by
  unfold prOk at h
  simp only [Bool.and_eq_true] at h
  obtain ⟨-, h1, h2, h3, h4, h5, h6⟩ := h
  have a4 := listsOk_len h4
  have a6 := listsOk_len h6
  exact ⟨redOk_len h1, redOk_len h2, redOk_len h3, a4.1, a4.2, redOk_len h5, a6.1, a6.2⟩
theorem nums_len {L : LayR} {j : Nat} {P : ProofR} (h : Lens L j P) : 8 * (numsOf P).length = szOf L j := by
  have h4 := flat_len _ P.cols h.col
  have h6 := flat_len _ P.paths h.path
  rw [h.cols] at h4
  rw [h.paths] at h6
  have h1 := h.code
  have h2 := h.linear
  have h3 := h.quad
  have h5 := h.salts
  unfold numsOf szOf
  simp only [List.length_append, List.length_cons, List.length_nil]
  rw [Nat.mul_add L.queries (L.a + L.b + L.b + L.b + 3 + 1) j, Nat.mul_add L.queries (L.a + L.b + L.b + L.b + 3) 1]
  omega
theorem ofNums_nums {L : LayR} {j : Nat} {P : ProofR} (h : Lens L j P) : ofNums L j (numsOf P) = P := by
  have hn : numsOf P = P.root :: (P.code ++ (P.linear ++ (P.quad ++ (P.cols.flatten ++ (P.salts ++ P.paths.flatten))))) := by simp [numsOf]
  have d1 : (numsOf P).drop 1 = P.code ++ (P.linear ++ (P.quad ++ (P.cols.flatten ++ (P.salts ++ P.paths.flatten)))) := by rw [hn]; rfl
  have d2 : (numsOf P).drop (1 + L.k) = P.linear ++ (P.quad ++ (P.cols.flatten ++ (P.salts ++ P.paths.flatten))) := by rw [← List.drop_drop, d1, drop_at h.code]
  have hf := flat_len _ P.cols h.col
  rw [h.cols] at hf
  have e4 : chunks L.queries (L.a + L.b + L.b + L.b + 3) (P.cols.flatten ++ (P.salts ++ P.paths.flatten)) = P.cols := by
    rw [← h.cols]; exact chunks_flatten _ _ _ h.col
  have e6 : chunks L.queries j P.paths.flatten = P.paths := by
    have := chunks_flatten j P.paths [] h.path
    rw [List.append_nil] at this
    rw [← h.paths]
    exact this
  unfold ofNums
  simp only [d1, d2, drop_at h.linear, drop_at h.quad, take_at h.code, take_at h.linear, take_at h.quad, drop_at hf, take_at h.salts, drop_at h.salts, e4, e6]
  rw [hn]
  cases P
  rfl
/-- Decoding what encodes a valid proof. -/
theorem dec_enc (L : LayR) (j : Nat) (P : ProofR) (hp : 0 < L.p) (hP : ∀ x ∈ numsOf P, x < 18446744073709551616) (h : prOk L j P = true) : pdecOf L j (bytesOf (numsOf P)) = (P, 0) ∧ (bytesOf (numsOf P)).length = szOf L j := by
  have hl := lens_of h
  have hb : (bytesOf (numsOf P)).length = szOf L j := by rw [bytesOf_len, nums_len hl]
  have h8 := nums_len hl
  have hw := wordsOf_bytes (numsOf P) hP
  obtain ⟨h1, -⟩ := decode_law L j (bytesOf (numsOf P)) (numsOf P).length hp hb h8
  rw [hw, ofNums_nums hl] at h1
  obtain ⟨a1, a2⟩ := h1 h
  refine ⟨?_, hb⟩
  unfold pdecOf
  rw [if_pos ⟨hb, a2⟩, a1]
theorem nums_contents (P : ProofR) : numsOf P = P.root :: (contents P).flatten := by simp [numsOf, contents]
end Go.Proofs.Ytkaecidnkkcbaaa

