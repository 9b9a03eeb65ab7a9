/-
  Words for mask.Columns: cells of any values that are made whole; sizes.
-/
import Derived.Test.YtefnagiffllhbaaGreatJQ15
import Derived.Test.YtefnagiffllhbaaGreatJQ7
import Derived.Test.YtefnagiffllhbaaGreatJQ19

/- ColA -/
namespace Go.Proofs.YtefnagiffllhbaaGreat
open Go.RowKit

def fillV (n : Nat) (f : Nat → Value) : Array Value := ((List.range n).map f).toArray
theorem fillV_get {n k : Nat} (f : Nat → Value) (h : k < n) : (fillV n f)[k]? = some (f k) := by simp [fillV, h]
theorem fillV_same {n : Nat} {f g : Nat → Value} (h : ∀ i, i < n → f i = g i) : fillV n f = fillV n g := by
  unfold fillV
  congr 1
  exact List.map_congr_left fun i hi => h i (List.mem_range.1 hi)
theorem fillV_set {n k : Nat} (f : Nat → Value) (v : Value) : (fillV n f).setIfInBounds k v = fillV n (fun i => if i = k then v else f i) := by
  apply Array.ext
  · simp [fillV]
  · intro i h1 h2
    simp [fillV] at h1 h2
    rw [Array.getElem_setIfInBounds (by simpa [fillV] using h1)]
    simp only [fillV]
    split
    · subst_vars; simp
    · rename_i hne
      simp [show ¬ i = k from fun e => hne e.symm]
theorem made_nilV (n : Nat) : madeCells (Value.slice none 0 0).cells (n * 1) = fillV n fun _ => .slice none 0 0 := by
  apply Array.toList_inj.1
  rw [show (Value.slice none 0 0).cells = #[.slice none 0 0] from rfl, toList_madeCells_one]
  exact List.ext_getElem (by simp [fillV]) fun i h1 h2 => by simp [fillV]
theorem mk_rows (n : Nat) (hn : n ≤ 1000000) (w : World) :
    (Instr.makeSlice 37 (.int .i64 (n : Int)) (.int .i64 (n : Int))).run Tryz.prog w = .ok (.slice (some ⟨w.heap.size, 0, none⟩) n n) (w.alloc (.cells (fillV n fun _ => .slice none 0 0) 28)) := by
  have := mk_n (P := Tryz.prog) el_ww n (by omega) (by omega) w
  rw [made_nilV] at this
  exact this
theorem vanP_lt {p b : Nat} (hp : 0 < p) (l : List Nat) : ∀ i k, vanP p b l i k < p
  | 0, _ => hp
  | i + 1, k => by
    simp only [vanP, putF]
    split
    · exact Nat.mod_lt _ hp
    · split
      · exact Nat.mod_lt _ hp
      · exact vanP_lt hp l i k
theorem mrowP_lt {L : LayR} (hp : 0 < L.p) (msg masks : List Nat) (k : Nat) : mrowP L msg masks k < L.p := by
  unfold mrowP plusP
  split
  · exact Nat.mod_lt _ hp
  · exact vanP_lt hp _ _ _
theorem linA_lt {p b : Nat} (hp : 0 < p) (l : List Nat) : ∀ k, linA p b l k < p
  | 0 => hp
  | _ + 1 => Nat.mod_lt _ hp
/-- The polynomials of Columns. -/
def polyRow (L : LayR) (m r : List (List Nat)) (k : Nat) : List Nat := (List.range (L.block + (r.getD k []).length)).map (mrowP L (m.getD k []) (r.getD k []))
def polyRows (L : LayR) (m r : List (List Nat)) (n : Nat) : List (List Nat) := (List.range n).map (polyRow L m r)
theorem polyRows_next (L : LayR) (m r : List (List Nat)) (k : Nat) : polyRows L m r k ++ [polyRow L m r k] = polyRows L m r (k + 1) := by simp [polyRows, List.range_succ]
def quadP (L : LayR) (q : List Nat) : List Nat := (List.range (L.block + q.length)).map (vanP L.p L.block q q.length)
def polysP (L : LayR) (m r : List (List Nat)) (c l q : List Nat) : List (List Nat) := polyRows L m r m.length ++ [c, mlinP L l, quadP L q]
/-- The value of column i at row j. -/
def colV (L : LayR) (ps : List (List Nat)) (i j : Nat) : Nat := evaP L.p L.n L.n.log2 (ps.getD j []) (rowOf L.p).1 i
/-- Rows of a list, three more of which come by one append. -/
theorem grows_app3 {N : Nat} {w w' : World} {v v' x y z : Value} {cs : List Value} {l : List (List Nat)} {a b c : List Nat} (h : GRows N w v cs l) (hx : RWx N v.ownBlock w x a) (hy : RWx N v.ownBlock w y b) (hz : RWx N v.ownBlock w z c)
    (hg : w.grownBy w' v.ownBlock) (hv : v'.ownBlock = v.ownBlock ∨ v'.ownBlock = some w.heap.size) : GRows N w' v' (cs ++ [x, y, z]) (l ++ [a, b, c]) := by
  have key : ∀ {z : Value} {m : List Nat}, RWx N v.ownBlock w z m → RWx N v'.ownBlock w' z m := fun {z m} hz u hu => by
    refine hz u fun b h1 h2 h3 => ?_
    refine (hu b h1 (by have := hg.size; omega) ?_).trans (hg.block b h2 (fun e => h3 e))
    rcases hv with e | e
    · rw [e]; exact h3
    · rw [e]; intro e2; have := Option.some.inj e2; omega
  refine ⟨by simp [h.1], fun i h1 h2 => ?_⟩
  by_cases hi : i < cs.length
  · rw [List.getElem_append_left hi, List.getElem_append_left (by have := h.1; omega)]
    exact key (h.2 i hi _)
  · have e0 := h.1
    have h1' : i < cs.length + 3 := by simpa using h1
    rw [List.getElem_append_right (by omega), List.getElem_append_right (by omega)]
    have : i - cs.length = 0 ∨ i - cs.length = 1 ∨ i - cs.length = 2 := by omega
    have e1 : i - l.length = i - cs.length := by omega
    simp only [e1]
    rcases this with e | e | e <;> simp only [e]
    · exact key hx
    · exact key hy
    · exact key hz
theorem rd_three (w : World) (x y z : Value) (t : TypeId) : Rd (w.alloc (.cells #[x, y, z] t)) 1 (some ⟨w.heap.size, 0, none⟩) 3 [x, y, z] := by
  refine ⟨rfl, fun _ => ⟨_, rfl, fun j u hj => ?_⟩⟩
  rw [add_none, Nat.zero_add, (Blk.new w t #[x, y, z]).cell]
  simpa using hj
/-- A row that lies in a block of its own, made whole. -/
theorem rwx_fill {N g n : Nat} {gb : Option Nat} {w : World} {t : TypeId} {f : Nat → Nat} (h : Blk w g t (fillC n f)) (hf : ∀ i, i < n → f i < 18446744073709551616) (hn : n ≤ maxLen) (hN : N ≤ g) (hg : some g ≠ gb) : RWx N gb w (.slice (some ⟨g, 0, none⟩) n n) ((List.range n).map f) := by
  rw [fill_U64] at h
  exact rwx_blkn h (by simp) (fun x hx => by
    obtain ⟨i, hi, rfl⟩ := List.mem_map.1 hx
    exact hf i (List.mem_range.1 hi)) hn hN hg
theorem layLenN {L : LayR} (h : LayOk L) : LenOk L.p L.n ∧ L.n = 2 ^ L.n.log2 := by
  obtain ⟨j, hj⟩ := h.n
  refine ⟨⟨by have := h.nk; have := h.k; have := h.b1; omega, by have := h.n2; omega, ⟨j, hj⟩, h.nd⟩, ?_⟩
  rw [hj, Nat.log2_two_pow]
theorem fftP_lt {p : Nat} (hp : 0 < p) : ∀ (j : Nat) (a : Nat → Nat) (w k : Nat), (∀ i, a i < p) → fftP p j a w k < p
  | 0, _, _, k, h => h k
  | j + 1, a, w, k, _ => by
    simp only [fftP]
    split <;> exact Nat.mod_lt _ hp
theorem accP_lt {p n : Nat} (hp : 0 < p) (l : List Nat) (s : Nat) : ∀ i k, accP p n l s i k < p
  | 0, _ => hp
  | i + 1, k => by
    simp only [accP, putF]
    split
    · exact Nat.mod_lt _ hp
    · exact accP_lt hp l s i k
theorem evaP_lt {p : Nat} (hp : 0 < p) (n j : Nat) (l : List Nat) (s k : Nat) : evaP p n j l s k < p := fftP_lt hp _ _ _ _ (accP_lt hp _ _ _)
theorem gen_mod {p : Nat} (h : okP p = true) : (rowOf p).1 % p ≠ 0 := by
  rcases okP_cases h with rfl | rfl | rfl | rfl | rfl | rfl | rfl <;> decide
theorem polysP_len (L : LayR) (m r : List (List Nat)) (c l q : List Nat) : (polysP L m r c l q).length = m.length + 3 := by simp [polysP, polyRows]
theorem polysP_short {L : LayR} {m r : List (List Nat)} {c l q : List Nat} (hb : L.block ≤ 256) (hr : ∀ x ∈ r, x.length ≤ 2000) (h1 : c.length ≤ 2000) (h2 : l.length ≤ 2000) (h3 : q.length ≤ 2000) : ∀ x ∈ polysP L m r c l q, x.length ≤ 8192 := by
  intro x hx
  unfold polysP at hx
  rcases List.mem_append.1 hx with hx | hx
  · obtain ⟨k, -, rfl⟩ := List.mem_map.1 hx
    simp only [polyRow, List.length_map, List.length_range]
    have : (r.getD k []).length ≤ 2000 := by
      rw [List.getD_eq_getElem?_getD]
      cases h : r[k]? with
      | none => simp
      | some y => exact hr y (List.mem_of_getElem? h)
    omega
  · simp at hx
    rcases hx with rfl | rfl | rfl
    · omega
    · simp [mlinP]; omega
    · simp [quadP]; omega
end Go.Proofs.YtefnagiffllhbaaGreat
