/-
  What the parts of a proof say together: the plain law between prover.Valid and the document's Valid.
-/
import Derived.Test.YtkaecidnkkcbaaaPrE
namespace Go.Proofs.Ytkaecidnkkcbaaa
open Go.RowKit

def contents (P : ProofR) : List (List Nat) := [P.code, P.linear, P.quad] ++ P.cols ++ [P.salts] ++ P.paths
def partGood (x : PartR) (l : List Nat) : Bool := ((l.length : Int) == (x.size : Int)) && l.all (fun n => decide (n < x.lim))
def allGood (ps : List PartR) (ls : List (List Nat)) : Bool := (List.zip ps ls).all fun z => partGood z.1 z.2
theorem partGood_red (x : PartR) (l : List Nat) : partGood x l = redOk l (x.size : Int) x.lim := by unfold partGood redOk; rw [Bool.and_comm]
theorem allGood_append {a b : List PartR} {c d : List (List Nat)} (h : a.length = c.length) : allGood (a ++ b) (c ++ d) = (allGood a c && allGood b d) := by
  unfold allGood
  rw [List.zip_append h, List.all_append]
theorem allGood_true {ps : List PartR} {ls : List (List Nat)} (h : ps.length = ls.length) (hg : ∀ i (h1 : i < ps.length) (h2 : i < ls.length), partGood ps[i] ls[i] = true) : allGood ps ls = true := by
  unfold allGood
  rw [List.all_eq_true]
  intro z hz
  obtain ⟨i, hi, rfl⟩ := List.getElem_of_mem hz
  have h1 : i < ps.length := by simp at hi; omega
  have h2 : i < ls.length := by simp at hi; omega
  simpa using hg i h1 h2
theorem allGood_false {ps : List PartR} {ls : List (List Nat)} {i : Nat} (h1 : i < ps.length) (h2 : i < ls.length) (hg : partGood ps[i] ls[i] = false) : allGood ps ls = false := by
  unfold allGood
  rw [List.all_eq_false]
  refine ⟨(ps[i], ls[i]), ?_, by rw [hg]; exact Bool.noConfusion⟩
  have : (List.zip ps ls)[i]'(by simp; omega) = (ps[i], ls[i]) := by simp
  rw [← this]
  exact List.getElem_mem _
theorem partsC_len (b q n size lim : Nat) : (partsC b q n size lim).length = n := by simp [partsC]
theorem allGood_C (b q size lim : Nat) (ls : List (List Nat)) : allGood (partsC b q ls.length size lim) ls = ls.all (fun l => redOk l (size : Int) lim) := by
  cases h : ls.all (fun l => redOk l (size : Int) lim) with
  | true =>
    refine allGood_true (partsC_len _ _ _ _ _) fun i h1 h2 => ?_
    rw [partGood_red]
    have := List.all_eq_true.1 h ls[i] (List.getElem_mem h2)
    simpa [partsC] using this
  | false =>
    obtain ⟨l, hl, hb⟩ := List.all_eq_false.1 h
    obtain ⟨i, hi, rfl⟩ := List.getElem_of_mem hl
    refine allGood_false (i := i) (by rw [partsC_len]; exact hi) hi ?_
    rw [partGood_red]
    have hb' : redOk ls[i] (size : Int) lim = false := by simpa using hb
    simpa [partsC] using hb'
theorem allGood_one (x : PartR) (l : List Nat) : allGood [x] [l] = partGood x l := by simp [allGood]
theorem allGood_3 (L : LayR) (g : Nat) (a b c : List Nat) : allGood (parts3 L g) [a, b, c] = (redOk a (L.k : Int) L.p && (redOk b ((L.k + L.block - 1 : Nat) : Int) L.p && redOk c ((2 * L.k - 1 : Nat) : Int) L.p)) := by
  simp only [allGood, parts3, List.zip_cons_cons, List.zip_nil_right, List.all_cons, List.all_nil, Bool.and_true, partGood_red]

theorem prOk_parts (L : LayR) (j g b4 q4 b6 q6 : Nat) (P : ProofR) (h4 : P.cols.length = L.queries) (h6 : P.paths.length = L.queries) (hr : decide (bigP ≤ P.root) = false) :
    prOk L j P = allGood (partsOf L j g b4 q4 b6 q6) (contents P) := by
  unfold partsOf contents prOk
  rw [allGood_append, allGood_append, allGood_append]
  · rw [← h4, allGood_C, h4, ← h6, allGood_C, h6, allGood_one, partGood_red, allGood_3, hr]
    unfold listsOk
    rw [h4, h6]
    simp only [beq_self_eq_true, Bool.and_true, Bool.not_false, Bool.true_and, Bool.and_assoc]
  · simp [parts3]
  · simp [parts3, partsC, h4]
  · simp [parts3, partsC, h4]
theorem prOk_len {L : LayR} {j : Nat} {P : ProofR} (h : ¬ (P.cols.length = L.queries ∧ P.paths.length = L.queries)) : prOk L j P = false := by
  by_cases h4 : P.cols.length = L.queries
  · have h6 : ((P.paths.length : Int) == (L.queries : Int)) = false := by rw [beq_eq_false_iff_ne]; omega
    simp [prOk, listsOk, h6]
  · have h6 : ((P.cols.length : Int) == (L.queries : Int)) = false := by rw [beq_eq_false_iff_ne]; omega
    simp [prOk, listsOk, h6]
theorem prOk_root {L : LayR} {j : Nat} {P : ProofR} (h : decide (bigP ≤ P.root) = true) : prOk L j P = false := by
  unfold prOk
  rw [h]
  rfl

/-- A part's list, in memory. -/
def PartAt (w : World) (x : PartR) (l : List Nat) : Prop := ∃ b o A n c, x.ptr = ⟨b, o, none⟩ ∧ w.cell? ⟨b, o, none⟩ = some (.slice A n c) ∧ RWd w [.slice A n c] l
def PartsIn (w : World) (ps : List PartR) (ls : List (List Nat)) : Prop := ps.length = ls.length ∧ ∀ i (h1 : i < ps.length) (h2 : i < ls.length), PartAt w ps[i] ls[i]
theorem partAt_below {w w' : World} {x : PartR} {l : List Nat} (h : PartAt w x l) (hb : Below w.heap.size w w') : PartAt w' x l := by
  obtain ⟨b, o, A, n, c, e, hc, hr⟩ := h
  exact ⟨b, o, A, n, c, e, later_cell hb hc, kept_RWd _ _ _ _ hb hr⟩
theorem partsIn_append {w : World} {a b : List PartR} {c d : List (List Nat)} (h : PartsIn w a c) (k : PartsIn w b d) : PartsIn w (a ++ b) (c ++ d) := by
  refine ⟨by rw [List.length_append, List.length_append, h.1, k.1], fun i h1 h2 => ?_⟩
  rcases Nat.lt_or_ge i a.length with hi | hi
  · rw [List.getElem_append_left hi, List.getElem_append_left (by rw [← h.1]; exact hi)]
    exact h.2 i hi (by rw [← h.1]; exact hi)
  · rw [List.getElem_append_right hi, List.getElem_append_right (by rw [← h.1]; exact hi)]
    have e : i - a.length = i - c.length := by rw [h.1]
    have := k.2 (i - a.length) (by simp at h1; omega) (by rw [List.length_append] at h2; rw [h.1]; have := h.1; omega)
    simpa [e] using this
theorem partsIn_C {w : World} {b q size lim : Nat} {ls : List (List Nat)} (h : RdL w 1 RWd (some ⟨b, q, none⟩) ls) : PartsIn w (partsC b q ls.length size lim) ls := by
  refine ⟨partsC_len _ _ _ _ _, fun i h1 h2 => ?_⟩
  obtain ⟨b', q', A, n, c, hA, -, hc, hr⟩ := lists_get h h2
  injection hA with hA
  injection hA with e1 e2
  subst e1
  subst e2
  exact ⟨b, q + i, A, n, c, by simp [partsC], hc, hr⟩
theorem partsIn_of {w : World} {L : LayR} {j g b4 q4 b6 q6 : Nat} {P : ProofR} {S : PS} (kg : Blk w g 35 (prCs P S)) (h : PrIn w P S) (h4 : P.cols.length = L.queries) (h6 : P.paths.length = L.queries) (hA4 : S.A4 = some ⟨b4, q4, none⟩) (hA6 : S.A6 = some ⟨b6, q6, none⟩) :
    PartsIn w (partsOf L j g b4 q4 b6 q6) (contents P) := by
  have r4 := (lists_open h.cols).2.2.2
  have r6 := (lists_open h.paths).2.2.2
  rw [hA4] at r4
  rw [hA6] at r6
  have one : ∀ (i : Nat) (s lim : Nat) (l : List Nat) (A : Option Addr) (n c : Nat), (prCs P S)[i]? = some (.slice A n c) → RWd w [.slice A n c] l → PartAt w ⟨⟨g, i, none⟩, s, lim⟩ l :=
    fun i s lim l A n c hi hr => ⟨g, i, A, n, c, rfl, (kg.cell i).trans hi, hr⟩
  refine partsIn_append (partsIn_append (partsIn_append ?_ ?_) ?_) ?_
  · refine ⟨rfl, fun i h1 h2 => ?_⟩
    match i, h1 with
    | 0, _ => exact one 1 _ _ _ _ _ _ rfl h.code
    | 1, _ => exact one 2 _ _ _ _ _ _ rfl h.linear
    | 2, _ => exact one 3 _ _ _ _ _ _ rfl h.quad
  · rw [← h4]; exact partsIn_C r4
  · refine ⟨rfl, fun i h1 h2 => ?_⟩
    match i, h1 with
    | 0, _ => exact one 5 _ _ _ _ _ _ rfl h.salts
  · rw [← h6]; exact partsIn_C r6
theorem pcs_get : ∀ (l : List PartR) (k : Nat) (h : k < l.length), (pcs l)[k * 3]? = some (.pointer (some l[k].ptr)) ∧ (pcs l)[k * 3 + 1]? = some (.int .i64 (l[k].size : Int)) ∧ (pcs l)[k * 3 + 2]? = some (.int .u64 (l[k].lim : Int))
  | x :: l, 0, _ => ⟨rfl, rfl, rfl⟩
  | x :: l, k + 1, h => by
    have := pcs_get l k (by simpa using h)
    have e : pcs (x :: l) = [.pointer (some x.ptr), .int .i64 (x.size : Int), .int .u64 (x.lim : Int)] ++ pcs l := rfl
    rw [e]
    refine ⟨?_, ?_, ?_⟩
    · rw [List.getElem?_append_right (by simp; omega)]
      have e1 : (k + 1) * 3 - [Value.pointer (some x.ptr), .int .i64 (x.size : Int), .int .u64 (x.lim : Int)].length = k * 3 := by simp; omega
      rw [e1]; exact this.1
    · rw [List.getElem?_append_right (by simp; omega)]
      have e1 : (k + 1) * 3 + 1 - [Value.pointer (some x.ptr), .int .i64 (x.size : Int), .int .u64 (x.lim : Int)].length = k * 3 + 1 := by simp; omega
      rw [e1]; exact this.2.1
    · rw [List.getElem?_append_right (by simp; omega)]
      have e1 : (k + 1) * 3 + 2 - [Value.pointer (some x.ptr), .int .i64 (x.size : Int), .int .u64 (x.lim : Int)].length = k * 3 + 2 := by simp; omega
      rw [e1]; exact this.2.2
end Go.Proofs.Ytkaecidnkkcbaaa

